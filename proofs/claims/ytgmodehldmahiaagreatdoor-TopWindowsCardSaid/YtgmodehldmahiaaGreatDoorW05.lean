/- Part 5 of 50 of the proof of topWindows_holds. Conditions: see each. -/
import Derived.Test.YtgmodehldmahiaaGreatDoorW01
import Derived.Test.YtgmodehldmahiaaGreatDoorW02
set_option linter.unusedVariables false
set_option linter.unusedSimpArgs false
set_option maxRecDepth 8192
set_option maxHeartbeats 40000000
namespace Go.Proofs.YtgmodehldmahiaaGreatDoor.Turn
open Go Go.RowKit Go.Tm
theorem j5:Ty Tryz.prog 3 1 false:=⟨aj,aj,aB,aj⟩
theorem pR(v:Value)(xs:List Value)(fid:FuncId)(caps:Array Value)(p:Value→Bool)(w:World)(hsl:Sl w false 1 v xs)(hp:Pred Tryz.prog w none fid caps p xs):
  Calls Tryz.prog 83 #[v,.func (.func fid) #[] caps] w fun e w'=>e=.returned (.int .i64 (idx p xs))∧Below w.heap.size w w':=by
 obtain⟨hsz,a,cap,rfl,hl,hm,hform⟩:=hsl
 unfold maxLen at hm
 have hlen:xs.length≤9223372036854775807:=ah
 go_enter Tryz.func83,Tryz.ntmps83
 go_wp2_with fail
 go_loopw [8] (fun t wr=>∃i:Nat,i≤xs.length∧t=.int .i64 i∧Below w.heap.size w wr∧∀j y,j<i→xs[j]?=some y→p y=false) (fun t _=>xs.length-(intOf t).toNat)
 case atStart=>exact⟨0,Nat.zero_le _,rfl,Below.refl _ _,tF⟩
 case round=>
  obtain⟨i,hi,rfl,hbw,fG⟩:=hrel
  have HP:=Lib.hid fG
  clear fG
  by_cases hlt:i<xs.length
  ·obtain⟨x,hx⟩:∃x,xs[i]?=some x:=⟨_,List.getElem?_eq_getElem hlt⟩
   have hmem:x∈xs:=List.mem_of_getElem? hx
   have HV:=Lib.hid (hsz _ hmem)
   obtain⟨b,off,rfl,hb,hcell⟩:∃b off,a=some ⟨b,off,none⟩∧b<w.heap.size∧Cells wr b (off+i*1) x.cells.toList:=yx
   have HX:=Lib.hid hx
   have nu:=Lib.hid hcell
   clear hx hcell hform hsz
   have hcall:=hp.asks wr (ay hbw none) _ hmem
   have hbody:=hp.body
   unfold Body at hbody
   have HC:=Lib.hid hcall
   clear hcall hp
   cases hpx:p x
   ·have uG:=Lib.hid hpx
    rw[hpx] at HC
    clear hpx
    go_wp2_with(first|(refine aO rfl 3 _ rfl b (off+i*1) bT x j5 HV.out nu.out ?_)|fail)
    exact Hr
   ·have uG:=Lib.hid hpx
    rw[hpx] at HC
    clear hpx
    go_wp2_with(first|(refine aO rfl 3 _ rfl b (off+i*1) bT x j5 HV.out nu.out ?_)|fail)
    exact yA
  ·exact yB
theorem p9:(Tryz.prog.info? 3).map (fun i=>(i.zero,i.size,i.bytes))=some (some (.int .i64 0),1,8):=by kernel_rfl
theorem Jp(v:Value)(xs:List Value)(w:World)(hsl:Sl w false 1 v xs)(hbytes:xs.length*8≤140737488355328):
  Calls Tryz.prog 186 #[v] w fun e w'=>∃v',e=.returned v'∧bB w' w.heap.size 3 false 1 v' xs∧Below w.heap.size w w':=by
 have hsl0:=Lib.hid hsl
 obtain⟨hsz,a,cap,rfl,hl,hm,hform⟩:=hsl
 have hlen:xs.length≤maxLen:=ah
 cases a with
 |none=>
  have h0:xs=[]:=yu
  subst h0
  have hnil:=fun(n c:Nat) (w:World)=>eD Tryz.prog (t:=44) (n:=n) (c:=c) Tryz.underlying44 w
  clear hform hsz hl hm hlen
  go_enter Tryz.func186,Tryz.ntmps186
  exact yw
 |some a=>
  have hnil:=fun(n c:Nat) (w:World)=>eB Tryz.prog (t:=44) (a:=a) (n:=n) (c:=c) Tryz.underlying44 w
  obtain⟨i0,hi,hz0,hz1,hz2⟩:=info_parts p9
  have HI:=Lib.hid hi
  have HZ:=Lib.hid (And.intro hz0 (And.intro hz1 hz2))
  have HS:=Lib.hid hsz
  clear hi hz0 hz1 hz2 hform hl hm hsz
  go_enter Tryz.func186,Tryz.ntmps186
  go_wp2_with(first|(refine wpList_append_own _ rfl _ _ 44 rfl w.heap.size 3 i0 (.int .i64 0) 1 8 Tryz.underlying44 HI.out HZ.out.1 HZ.out.2.1 HZ.out.2.2 rfl aB (.slice (some ⟨w.heap.size,0,none⟩) 0 0) 0 [] bT (World.ownsRow_made w #[] 0 (Nat.le_refl _) (Nat.zero_le _) rfl) a xs.length cap (flat xs) bT ?c1 ?c2 ?c3 ?c4 ?c5 ?c6 ?_)|fail)
  case c1=>exact dX HS.out
  case c2=>exact(hsl0.out.below ((Below.refl _ _).alloc (Nat.le_refl _) _)).news
  case c3=>exact iD HS.out
  case c4=>omega
  case c5=>omega
  case c6=>simp
  exact yC
def rR(l:List Int)(x:Int):Int:=idx (fun v=>match v with|.int _ n=>decide (n=x)|_=>false) (ints l)
theorem Dx{l:List Int}{i:Nat}{x:Int}(h:l[i]?=some x)(hp:∀j,j<i→l[j]?≠some x):rR l x=i:=by
 unfold rR
 refine AQ (x:= .int .i64 x) (by simp[h]) aI ?_
 intro j y hj hy
 rw[List.getElem?_map] at hy
 cases hl:l[j]? with
 |none=>rw[hl] at hy;simp at hy
 |some z=>
  rw[hl] at hy
  simp at hy
  subst hy
  have:=hp j hj
  rw[hl] at this
  simp at this
  simp[this]
theorem NT{l:List Int}{x:Int}(h:x∉l):rR l x=-1:=by
 unfold rR
 refine Na ?_
 intro y hy
 obtain⟨n,hn,rfl⟩:=List.mem_map.1 hy
 simp
 rintro rfl
 exact h hn
theorem VU(v:Value)(l:List Int)(x:Int)(w:World)(hv:Sl w false 1 v (ints l)):
  Calls Tryz.prog 134 #[v,.int .i64 x] w fun e w'=>e=.returned (.int .i64 (rR l x))∧Below w.heap.size w w':=by
 have HV:=Lib.hid hv
 obtain⟨a,cap,rfl,hl⟩:=hv.shape
 clear hv
 rw[gT] at hl HV⊢
 go_enter Tryz.func134,Tryz.ntmps134
 go_wp2_with fail
 go_loopw [8] (fun t W=>∃i:Nat,i≤l.length∧t=.int .i64 i∧Below w.heap.size w W∧∀j,j<i→l[j]?≠some x) (fun t _=>l.length-(intOf t).toNat)
 case atStart=>exact⟨0,Nat.zero_le _,rfl,Below.refl _ _,by intro j h;omega⟩
 case round=>
  obtain⟨i,hi,rfl,hbw,fG⟩:=hrel
  have HP:=Lib.hid fG
  have hws:=hbw.size
  clear fG
  by_cases hlt:i<l.length
  ·obtain⟨y,hy⟩:∃y,l[i]?=some y:=⟨_,List.getElem?_eq_getElem hlt⟩
   obtain⟨b,off,rfl,hb,hcell⟩:=(HV.out.below hbw).at (M9 hy)
   have c0:wr.cell? ⟨b,off+i,none⟩=some (.int .i64 y):=by have:=hcell 0 _ rfl;simpa using this
   have hwr:IntKind.i64.wrap ((i:Int)+1)=i+1:=IntWalk.i64_in _ ah
   have HY:=Lib.hid hy
   clear hcell hy
   by_cases hxy:x=y
   ·subst hxy
    go_wp2_with fail
    try go_region
    go_wp2_with fail
    go_ret
    exact⟨by rw[Dx HY.out HP.out];rfl,aD⟩
   ·have n1:(x==y)=false:=by simpa using hxy
    have n2:(x !=y)=true:=by simpa using hxy
    go_wp2_with fail
    try go_region
    go_wp2_with fail
    go_roundw
    case rel=>
     refine⟨i+1,ah,bI,aD,?_⟩
     intro j hj
     rcases Nat.lt_succ_iff_lt_or_eq.1 hj with hj|rfl
     ·exact HP.out j hj
     ·rw[HY.out];intro h;exact hxy (Option.some.inj h).symm
    case measure=>simp[intOf];omega
  ·go_wp2_with fail
   go_ret
   refine⟨?_,hbw⟩
   rw[NT];·rfl
   intro hm
   obtain⟨j,hj,hxj⟩:=List.getElem_of_mem hm
   exact HP.out j ah YS
theorem Gi(l:List Int)(x:Int):(rR l x=-1∧x∉l)∨(∃i:Nat,rR l x=i∧x∈l∧i<l.length):=by
 unfold rR idx
 cases h:(ints l).findIdx? _ with
 |none=>
  refine .inl ⟨rfl,fun hm=>?_⟩
  rw[List.findIdx?_eq_none_iff] at h
  have:=h (.int .i64 x) (List.mem_map.2 ⟨x,hm,rfl⟩)
  simp at this
 |some i=>
  rw[List.findIdx?_eq_some_iff_getElem] at h
  obtain⟨hi,hp,_⟩:=h
  refine .inr ⟨i,rfl,?_,JJ⟩
  simp at hp
  rw[←hp]
  exact List.getElem_mem _
theorem Le(v:Value)(l:List Int)(x:Int)(w:World)(hv:Sl w false 1 v (ints l)):
  Calls Tryz.prog 106 #[v,.int .i64 x] w fun e w'=>e=.returned (.bool (decide (x∈l)))∧Below w.heap.size w w':=by
 have hI:=fun W h=>VU v l x W h
 have HV:=Lib.hid hv
 obtain⟨a,cap,rfl,hl⟩:=hv.shape
 clear hv
 rw[gT] at hl HV hI⊢
 rcases Gi l x with⟨hp,hm⟩|⟨i,hp,hm,_⟩
 all_goals
  rw[hp] at hI
  go_enter Tryz.func106,Tryz.ntmps106
  go_wp2_with fail
  with_reducible refine(hI _ (HV.out)).mono ?_
  rintro e w1 ⟨rfl,hb1⟩
  go_wp2_with fail
  go_ret
  exact⟨by simp[hm],aD⟩
theorem aaP(n:Nat)(w:World)(hn:n*8≤140737488355328):
  Calls Tryz.prog 162 #[.slice none 0 0,.int .i64 n] w fun e w'=>∃v',e=.returned v'∧bB w' w.heap.size 3 false 1 v' []∧Below w.heap.size w w':=by
 obtain⟨i0,hi0,hq0,hq1,hq2⟩:=info_parts p9
 have HI:=Lib.hid (And.intro hi0 (And.intro hq0 (And.intro hq1 hq2)))
 clear hi0 hq0 hq1 hq2
 by_cases h0:n=0
 ·subst h0
  go_enter Tryz.func162,Tryz.ntmps162
  go_wp2_with fail
  go_ret
  exact⟨_,rfl,bB.nil,aD⟩
 ·go_enter Tryz.func162,Tryz.ntmps162
  go_wp2_with(first|(refine xW (base:=w.heap.size) (E:=3) (ag:=false) (k:=1) rfl _ _ 44 3 rfl j5 i0 (.int .i64 0) .i64 8 Tryz.underlying44 Tryz.underlying3 HI.out.1 HI.out.2.1 HI.out.2.2.1 HI.out.2.2.2 rfl ?_ n ah ?_ ?_ ah (Nat.le_refl _) ?_;(focus(simp[Act.eval]));(focus(simp[Act.eval]));(focus(unfold maxLen;omega));(intro cap2 w2 hc2 ho2 hg2;(have hb2:Below w.heap.size w w2:=bq hg2);(have lV:=Lib.hid ho2);clear ho2 hg2))|fail)
  go_ret
  exact⟨_,rfl,lV.out,hb2⟩
theorem RB(v1 v2:Value)(l1 l2:List Int)(B:Nat)(w:World)(h1:Sl w false 1 v1 (ints l1))(h2:Sl w false 1 v2 (ints l2))(hB:B<w.heap.size)
  (c0:w.cell? ⟨B,0,none⟩=some v1)(c1:w.cell? ⟨B,1,none⟩=some v2)(hby:(l1.length+l2.length)*8≤140737488355328):
  Calls Tryz.prog 135 #[.slice (some ⟨B,0,none⟩) 2 2] w fun e w'=>∃v',e=.returned v'∧bB w' w.heap.size 3 false 1 v' (ints (l1++l2))∧Below w.heap.size w w':=by
 have H1:=Lib.hid h1
 have H2:=Lib.hid h2
 obtain⟨a1,Pk,rfl,hl1⟩:=h1.shape
 obtain⟨a2,cap2,rfl,hl2⟩:=h2.shape
 obtain⟨i0,hi0,hq0,hq1,hq2⟩:=info_parts p9
 have HI:=Lib.hid (And.intro hi0 (And.intro hq0 (And.intro hq1 hq2)))
 clear hi0 hq0 hq1 hq2 h1 h2
 rw[gT] at hl1 hl2 c0 c1 H1 H2
 go_enter Tryz.func135,Tryz.ntmps135
 go_wp2_with fail
 go_loopw [3,11] (fun s t W=>∃i:Nat,i≤2∧t=.int .i64 i∧Below w.heap.size w W∧s=.int .i64 ((if 0<i then(l1.length:Int) else 0)+(if 1<i then(l2.length:Int) else 0))) (fun _ t _=>2-(intOf t).toNat)
 case atStart=>exact⟨0,ah,rfl,Below.refl _ _,rfl⟩
 case round=>
  obtain⟨i,hi,rfl,hbw,rfl⟩:=hrel
  have hws:=hbw.size
  have d0:wr.cell? ⟨B,0,none⟩=some (.slice a1 l1.length Pk):=(hbw.cell (p:=⟨B,0,none⟩) hB).trans c0
  have d1:wr.cell? ⟨B,1,none⟩=some (.slice a2 l2.length cap2):=(hbw.cell (p:=⟨B,1,none⟩) hB).trans c1
  have C0:=Lib.hid c0
  have C1:=Lib.hid c1
  clear c0 c1
  have hs1:IntKind.i64.wrap (0+(l1.length:Int))=l1.length:=BO
  have hs2:IntKind.i64.wrap ((l1.length:Int)+l2.length)=l1.length+l2.length:=IntWalk.i64_in _ ah
  obtain rfl|rfl|rfl:i=0∨i=1∨i=2:=by omega
  ·go_wp2_with fail
   go_roundw
   case rel=>exact⟨1,ah,rfl,hbw,aI⟩
   case measure=>simp[intOf]
  ·go_wp2_with fail
   go_roundw
   case rel=>exact⟨2,ah,rfl,hbw,aI⟩
   case measure=>simp[intOf]
  ·have hsum:((if 0<2 then(l1.length:Int) else 0)+(if 1<2 then(l2.length:Int) else 0))=((l1.length+l2.length:Nat):Int):=by simp
   rw[hsum]
   have hG:=aaP (l1.length+l2.length) wr hby
   simp only[Int.natCast_add] at hG⊢
   clear hsum hs1 hs2
   go_wp2_with fail
   with_reducible refine hG.mono ?_
   rintro e w2 ⟨v2,rfl,ho2,hb2⟩
   have hz2:=hb2.size
   have lV:=Lib.hid (ho2.le hws)
   clear ho2 hG
   go_wp2_with fail
   go_loopw [6,27] (fun u t W=>∃(i:Nat) (tv:Value),i≤2∧tv=u∧t=.int .i64 i∧Below w.heap.size w W∧bB W w.heap.size 3 false 1 u (if i=0 then[] else if i=1 then ints l1 else ints l1++ints l2)) (fun _ t _=>2-(intOf t).toNat)
   case atStart=>exact⟨0,_,ah,rfl,rfl,aD,lV.out⟩
   case round=>
    obtain⟨i,tv,hi,rfl,rfl,hbw2,hown⟩:=hrel
    have d0:wr.cell? ⟨B,0,none⟩=some (.slice a1 l1.length Pk):=(hbw2.cell (p:=⟨B,0,none⟩) hB).trans C0.out
    have d1:wr.cell? ⟨B,1,none⟩=some (.slice a2 l2.length cap2):=(hbw2.cell (p:=⟨B,1,none⟩) hB).trans C1.out
    have abq:=hbw2.size
    have HO:=Lib.hid hown
    clear hown
    have G1:=Lib.hid (H1.out.below hbw2)
    have G2:=Lib.hid (H2.out.below hbw2)
    obtain rfl|rfl|rfl:i=0∨i=1∨i=2:=by omega
    ·have HO:=Lib.hid (show bB wr w.heap.size 3 false 1 tv [] from HO.out)
     go_wp2_with(first|(refine eO (v:=tv) (xs:=[]) (base:=w.heap.size) rfl _ _ 44 rfl j5 i0 (.int .i64 0) 8 Tryz.underlying44 HI.out.1 HI.out.2.1 HI.out.2.2.1 HI.out.2.2.2 rfl ?_ ?_ (.slice a1 l1.length Pk) (ints l1) ?_ ?_ ?_ ?_ ?_ ?_;(exact aG);(focus(exact HO.out));(exact aG);(focus(exact G1.out));(exact yh);(exact yg);(exact yj);(intro v4 w4 qR hg4 xY;(have hb4:Below w.heap.size w w4:=HO.out.below hg4 aD ah ah);(have sj:=Lib.hid qR);(clear qR hg4 xY)))|fail)
     go_roundw
     case rel=>exact⟨1,_,ah,rfl,rfl,hb4,sj.out⟩
     case measure=>simp[intOf]
    ·have HO:=Lib.hid (show bB wr w.heap.size 3 false 1 tv (ints l1) from HO.out)
     go_wp2_with(first|(refine eO (v:=tv) (xs:=ints l1) (base:=w.heap.size) rfl _ _ 44 rfl j5 i0 (.int .i64 0) 8 Tryz.underlying44 HI.out.1 HI.out.2.1 HI.out.2.2.1 HI.out.2.2.2 rfl ?_ ?_ (.slice a2 l2.length cap2) (ints l2) ?_ ?_ ?_ ?_ ?_ ?_;(exact aG);(focus(exact HO.out));(exact aG);(focus(exact G2.out));(exact yh);(exact yg);(exact yj);(intro v4 w4 qR hg4 xY;(have hb4:Below w.heap.size w w4:=HO.out.below hg4 aD ah ah);(have sj:=Lib.hid qR);(clear qR hg4 xY)))|fail)
     go_roundw
     case rel=>exact⟨2,_,ah,rfl,rfl,hb4,sj.out⟩
     case measure=>simp[intOf]
    ·have HO:=Lib.hid (show bB wr w.heap.size 3 false 1 tv (ints l1++ints l2) from HO.out)
     go_wp2_with fail
     go_ret
     exact⟨_,rfl,by rw[ints,List.map_append];exact HO.out,hbw2⟩
end Go.Proofs.YtgmodehldmahiaaGreatDoor.Turn
namespace Go.Proofs.YtgmodehldmahiaaGreatDoor.Turn
open Go Go.RowKit Go.Tm
theorem Zy:Val false 1 (.int .i64 0):=⟨rfl,rfl⟩
theorem w_(v:Value)(xs:List Value)(fid:FuncId)(caps:Array Value)(p:Value→Bool)(w:World)(base:Nat)(ho:bB w base 3 false 1 v xs)(hp:Pred Tryz.prog w v.ownBlock fid caps p xs):
  Calls Tryz.prog 185 #[v,.func (.func fid) #[] caps] w fun e w'=>∃v',e=.returned v'∧Sl w' false 1 v' (xs.filter fun x=>!p x)∧v'.ownBlock=v.ownBlock∧w.grownBy w' v.ownBlock:=by
 have hI:=pR v xs fid caps p w ho.sl ⟨hp.body,fun w' hg x hx=>hp.asks w' ⟨hg.os,hg.tape,hg.output,hg.size,fun b hb _=>hg.block b hb aI⟩ x hx⟩
 rcases jH p xs with⟨hi,hall⟩|⟨i0,x0,hi,hx0,Hw,fG⟩
 ·rw[hi] at hI
  have HF:=Lib.hid (show xs.filter (fun x=>!p x)=xs from List.filter_eq_self.2 (fun x hx=>EX))
  have HO:=Lib.hid ho
  clear hp ho hall
  go_enter Tryz.func185,Tryz.ntmps185
  exact Mi
 ·rw[hi] at hI
  have aby:i0<xs.length:=(List.getElem?_eq_some_iff.1 hx0).1
  obtain⟨g,cap,rfl,hlc,hcm,hbg,hgw,hfz,_⟩:=ho.form ah
  have hlen:xs.length≤9223372036854775807:=E5
  have Ip:(Value.slice (some ⟨g,0,none⟩) xs.length cap).ownBlock=some g:=rfl
  rw[Ip] at hp⊢
  obtain⟨i1,hi0,hq0,hq1,hq2⟩:=info_parts p9
  have hzv:∀w,(zeroValue 3).run Tryz.prog w=.ok (.int .i64 0) w:=fun w=>by simp[zeroValue,typeInfo,hi0,hq0]
  have HZV:=Lib.hid hzv
  clear hi0 hq0 hq1 hq2 hzv hfz
  have R_:=Lib.hid ho
  have TW:=Lib.hid hp
  have hbody:=hp.body
  unfold Body at hbody
  have zS:xs.take i0=(xs.take (i0+1)).filter (fun x=>!p x):=Mj
  have BD:=Lib.hid zS
  have abt:IntKind.i64.wrap ((i0:Int)+1)=i0+1:=IntWalk.i64_in _ ah
  have hne1:((i0:Int)==-1)=false:=mF
  clear ho hp fG zS hx0 Hw
  go_enter Tryz.func185,Tryz.ntmps185
  go_wp2_with fail
  with_reducible refine hI.mono ?_
  rintro e w1 ⟨rfl,hb1⟩
  have hz1:=hb1.size
  go_wp2_with fail
  go_loopw [5,6] (fun u t W=>∃(i j:Nat) (zs:List Value),i<j∧j≤xs.length∧u=.int .i64 i∧t=.int .i64 j∧zs.length=xs.length∧bB W base 3 false 1 (.slice (some ⟨g,0,none⟩) xs.length cap) zs∧w.grownBy W (some g)∧
   zs.take i=(xs.take j).filter (fun x=>!p x)∧∀r,j≤r→zs[r]?=xs[r]?) (fun _ t _=>xs.length-(intOf t).toNat)
  case atStart=>exact⟨i0,i0+1,xs,ah,ah,rfl,bI,rfl,R_.out.kept hb1,ay hb1 _,BD.out,fun _ _=>rfl⟩
  case round=>
   obtain⟨i,j,zs,hij,hj,rfl,rfl,hzl,how,hgw,htk,hdr⟩:=hrel
   have HO:=Lib.hid how
   have Xd:=Lib.hid hzl
   have G8:=Lib.hid htk
   have HDR:=Lib.hid hdr
   have HG:=Lib.hid hgw
   clear how hzl htk hdr hgw
   by_cases hlt:j<xs.length
   ·obtain⟨x,hx⟩:∃x,xs[j]?=some x:=⟨_,List.getElem?_eq_getElem hlt⟩
    have hzx:zs[j]?=some x:=(HDR.out j (Nat.le_refl _)).trans hx
    obtain⟨b',off',CU,hblt,hcell⟩:=HO.out.sl.at hzx
    simp only[Option.some.injEq,Addr.mk.injEq,and_true] at CU
    obtain⟨rfl,rfl⟩:=CU
    rw[Nat.zero_add] at hcell
    have nu:=Lib.hid hcell
    have HV:=Lib.hid (HO.out.val x (List.mem_of_getElem? hzx))
    have HC:=Lib.hid (TW.out.asks wr HG.out x (List.mem_of_getElem? hx))
    have HX:=Lib.hid hx
    have hwj:IntKind.i64.wrap ((j:Int)+1)=j+1:=IntWalk.i64_in _ ah
    have hwi:IntKind.i64.wrap ((i:Int)+1)=i+1:=IntWalk.i64_in _ ah
    clear hx hzx hcell
    cases hpx:p x
    ·have uG:=Lib.hid hpx
     rw[hpx] at HC
     clear hpx
     have tX:i<zs.length:=tH
     go_wp2_with(first|(refine aO rfl 3 _ rfl g (j*1) bT x j5 HV.out nu.out ?_)|((with_reducible refine HC.out.mono ?_);rintro e w2 ⟨rfl,hb2⟩;(have hz2:=hb2.size);(have lV:=Lib.hid (HO.out.kept hb2)))|(refine dw (base:=base) rfl _ _ rfl j5 g xs.length cap lV.out i tX ?_ x ?_ HV.out ?_;(focus(simp[Act.eval]));(focus(simp[Act.eval]));(intro w3 ho3 hg3;(have r_:=Lib.hid ho3);(have hg3':=aA HG.out (aA (ay hb2 (some g)) hg3));(have zO:=Lib.hid hg3');clear ho3 hg3 hg3'))|fail)
     go_roundw
     case rel=>
      refine⟨i+1,j+1,_,ah,ah,bI,bI,?_,r_.out,zO.out,?_,?_⟩
      ·exact Fp
      ·rw[eH HX.out,List.filter_append,←G8.out,eH (i:=i) (x:=x) E9,List.take_set_of_le (Nat.le_refl _)]
       simp[uG.out]
      ·exact Mg
     case measure=>simp[intOf];omega
    ·have uG:=Lib.hid hpx
     rw[hpx] at HC
     clear hpx
     go_wp2_with(first|(refine aO rfl 3 _ rfl g (j*1) bT x j5 HV.out nu.out ?_)|((with_reducible refine HC.out.mono ?_);rintro e w2 ⟨rfl,hb2⟩;(have hz2:=hb2.size);(have lV:=Lib.hid (HO.out.kept hb2)))|fail)
     go_roundw
     case rel=>
      refine⟨i,j+1,zs,ah,ah,rfl,bI,Xd.out,lV.out,aA HG.out (ay hb2 (some g)),?_,fun r hr=>HDR.out r ah⟩
      rw[eH HX.out,List.filter_append,←G8.out]
      simp[uG.out]
     case measure=>simp[intOf];omega
   ·have hjl:j=xs.length:=by omega
    subst hjl
    have tX:i<zs.length:=tH
    have hsub:zs.length-i=xs.length-i:=ER
    go_wp2_with(first|(refine kG (base:=base) rfl _ 44 rfl j5 Tryz.underlying44 HZV.out Zy g xs.length cap (cap-i) HO.out i tX ?_ ?_;(focus(rw[hsub];simp[Act.eval]));(intro w3 ho3 hg3;(have r_:=Lib.hid ho3);(have zO:=Lib.hid (aA HG.out hg3));clear ho3 hg3))|fail)
    exact Mh
end Go.Proofs.YtgmodehldmahiaaGreatDoor.Turn
namespace Go.Proofs.YtgmodehldmahiaaGreatDoor.Turn
open Go Go.RowKit Go.Tm
def qw(l:List Int)(n:Int):List Int×Int:=match l with|[]=>([],n)|x::r=>(r++[x],5)
def tL(l:List Int)(n:Int):List Int×Int:=if l=[] then(l,n) else if wrap64 (n-1)≤0 then qw l (wrap64 (n-1)) else(l,wrap64 (n-1))
def oL(l:List Int)(n pid:Int):List Int×Int:=if pid∈l then(l,n) else(l++[pid],if l=[] then 5 else n)
def gM(l:List Int)(n pid:Int):List Int×Int:=if pid∈l then(l.filter (fun x=>decide (x≠pid)),if l.head?=some pid then 5 else n) else(l,n)
theorem zx(v1 v2:Value)(l1 l2:List Int)(B:Nat)(w:World)(h1:Sl w false 1 v1 (ints l1))(h2:Sl w false 1 v2 (ints l2))(hB:B<w.heap.size)
  (c0:w.cell? ⟨B,0,none⟩=some v1)(c1:w.cell? ⟨B,1,none⟩=some v2)(hby:(l1.length+l2.length)*8≤140737488355328):
  Calls Tryz.prog 107 #[.slice (some ⟨B,0,none⟩) 2 2] w fun e w'=>∃v',e=.returned v'∧bB w' w.heap.size 3 false 1 v' (ints (l1++l2))∧Below w.heap.size w w':=by
 have hC:=RB v1 v2 l1 l2 B w h1 h2 hB c0 c1 hby
 clear h1 h2 c0 c1
 go_enter Tryz.func107,Tryz.ntmps107
 go_wp2_with fail
 with_reducible refine hC.mono ?_
 rintro e w1 ⟨v1,rfl,ho,hb1⟩
 have HO:=Lib.hid ho
 clear ho
 go_wp2_with fail
 go_ret
 exact⟨_,rfl,HO.out,hb1⟩
theorem uz(v:Value)(l:List Int)(n:Int)(w:World)(hv:Sl w false 1 v (ints l)):
  Calls Tryz.prog 112 #[.agg #[v,.int .i64 n]] w fun e w'=>e=.returned (.tuple #[.int .i64 (l.headD 0),.bool (decide (l≠[]))])∧Below w.heap.size w w':=by
 have HV:=Lib.hid hv
 obtain⟨a,cap,rfl,hl⟩:=hv.shape
 rw[gT] at hl HV hv⊢
 cases l with
 |nil=>
  clear hv
  go_enter Tryz.func112,Tryz.ntmps112
  go_wp2_with fail
  exact bodyPost_ret (v:= .tuple #[.int .i64 0,.bool false]) YH rfl ⟨rfl,aD⟩
 |cons x r=>
  obtain⟨b,off,rfl,hb,hcell⟩:=hv.at (i:=0) (x:= .int .i64 x) rfl
  have c0:w.cell? ⟨b,off,none⟩=some (.int .i64 x):=by have:=hcell 0 _ rfl;simpa using this
  clear hcell hv
  have hnb:¬b=w.heap.size:=ah
  go_enter Tryz.func112,Tryz.ntmps112
  go_wp2_with fail
  exact bodyPost_ret (v:= .tuple #[.int .i64 x,.bool true]) YH rfl ⟨aI,aD⟩
theorem IY(v:Value)(l:List Int)(n:Int)(w:World)(hv:Sl w false 1 v (ints l))(hby:l.length*8≤140737488351232):
  Calls Tryz.prog 146 #[.agg #[v,.int .i64 n]] w fun e w'=>∃v',e=.returned (.agg #[v',.int .i64 (qw l n).2])∧Sl w' false 1 v' (ints (qw l n).1)∧vD w.heap.size v (ints l) v' (ints (qw l n).1)∧Below w.heap.size w w':=by
 have HV:=Lib.hid hv
 cases l with
 |nil=>
  obtain⟨a,cap,rfl,hl⟩:=hv.shape
  clear hv
  go_enter Tryz.func146,Tryz.ntmps146
  go_wp2_with fail
  exact bodyPost_ret (v:= .agg #[.slice a 0 cap,.int .i64 n]) (by simp[results,Tryz.results146,go_sem]) rfl ⟨_,rfl,HV.out.below aD,vD.same,aD⟩
 |cons x r=>
  obtain⟨u1,hr1,hs1⟩:=hv.MZ (t:=44) j5 Tryz.underlying44 1 1 rfl aI
  obtain⟨u2,hr2,hs2⟩:=hv.MX (t:=44) j5 Tryz.underlying44 1 1 rfl aI
  replace hs1:Sl w false 1 u1 (ints r):=hs1
  replace hs2:Sl w false 1 u2 (ints [x]):=hs2
  obtain⟨a1,Pk,rfl,hl1⟩:=hs1.shape
  obtain⟨a2,cap2,rfl,hl2⟩:=hs2.shape
  rw[gT] at hs1 hs2 hr1 hr2
  have TV:=Lib.hid hs1
  have HS2:=Lib.hid hs2
  obtain⟨a,cap,rfl,hl⟩:=hv.shape
  rw[gT] at hl HV hv hr1 hr2⊢
  simp only[List.length_cons,List.length_nil] at hr1 hr2 TV HS2⊢
  clear hv hs1 hs2
  go_enter Tryz.func146,Tryz.ntmps146
  go_wp2_with fail
  generalize hW2:(w.alloc _).alloc _=w2
  have hb2:Below w.heap.size w w2:=by rw[←hW2];exact bl
  have hz2:w2.heap.size=w.heap.size+1+1:=by rw[←hW2];simp
  have k1:aC w2 w.heap.size #[.slice a (r.length+1) cap,.int .i64 n] 46:=by rw[←hW2];exact bx
  have k2:aC w2 (w.heap.size+1) #[.slice none 0 0,.int .i64 0] 46:=by rw[←hW2];exact bx
  have K2:=Lib.hid k2
  have kr:=k1.qL
  clear hW2 k1 k2
  ((refine fT 6 aj aj ?_);(simp only[List.take_succ_cons,List.take_zero,List.drop_succ_cons,List.drop_zero]);(repeat(go_big_quiet_step (fail)));(refine wpQuiet_nil ?_);(intro _ hw');(obtain⟨⟨dq,osq⟩,hw''⟩:=hw');(subst hw'');(have hq:=below_regrown w2 dq osq);(generalize Go.Sort.grow (redrawn w2 dq) osq=w3 at*);(have hz3:=hq.size))
  (have b3:aC w3 (w.heap.size+1) #[.slice none 0 0,.int .i64 0] 46:=PS);(obtain⟨hc3,hf3,hl3,sU,ng⟩:=b3.rules);(have K3:=Lib.hid b3);(clear b3)
  clear kr
  go_wp2_with fail
  have hJ:=fun W h1 h2 hB c0 c1=>zx (.slice a1 r.length Pk) (.slice a2 (0+1) cap2) r [x] w3.heap.size W h1 h2 hB c0 c1 (by simp;simp at hby;omega)
  with_reducible refine(hJ _ (TV.out.below ?_) (HS2.out.below ?_) ?_ ?_ ?_).mono ?_
  focus exact bl
  focus exact bl
  focus simp
  focus simp
  focus simp
  rintro e w4 ⟨v4,rfl,qR,hb4⟩
  have vT:=hb4.size
  simp only[World.size_alloc] at vT
  (have b4:aC w4 (w.heap.size+1) #[.slice none 0 0,.int .i64 0] 46:=(by(try have k4:=K3.out);exact bx));(obtain⟨hc4,xY,hl4,DL,Ir⟩:=b4.rules);(have K4:=Lib.hid b4);(clear b4)
  have sj:=Lib.hid (qR.le (base':=w3.heap.size) cZ)
  obtain⟨g4,cap4,rfl,_⟩:=qR.form aI
  rw[show(ints (r++[x])).length=r.length+1 by simp] at sj⊢
  clear qR hJ
  go_wp2_with fail
  exact bodyPost_ret (v:= .agg #[.slice (some ⟨g4,0,none⟩) (r.length+1) cap4,.int .i64 5]) (by simp[results,Tryz.results146,go_sem,hc4]) rfl
   ⟨_,rfl,((sj.out.setOther (b:=w.heap.size+1) ah _ _).setOther (b:=w.heap.size+1) ah _ _).sl,sj.out.res (N:=w.heap.size) ah,aD⟩
theorem U3(v:Value)(l:List Int)(n:Int)(w:World)(hv:Sl w false 1 v (ints l))(hby:l.length*8≤140737488351232):
  Calls Tryz.prog 117 #[.agg #[v,.int .i64 n]] w fun e w'=>∃v',e=.returned (.agg #[v',.int .i64 (tL l n).2])∧Sl w' false 1 v' (ints (tL l n).1)∧vD w.heap.size v (ints l) v' (ints (tL l n).1)∧Below w.heap.size w w':=by
 have HV:=Lib.hid hv
 have hY:=fun W h=>IY v l (wrap64 (n-1)) W h hby
 unfold tL
 obtain⟨a,cap,rfl,hl⟩:=hv.shape
 clear hv
 rw[gT] at hl HV hY⊢
 by_cases h0:l=[]
 ·subst h0
  clear hY
  go_enter Tryz.func117,Tryz.ntmps117
  go_wp2_with fail
  exact bodyPost_ret (v:= .agg #[.slice a 0 cap,.int .i64 n]) YG rfl ⟨_,rfl,HV.out.below aD,vD.same,aD⟩
 rw[if_neg h0]
 have hlp:0<l.length:=List.length_pos_iff.2 h0
 have hne:((l.length:Int)==0)=false:=mF
 by_cases h1:wrap64 (n-1)≤0
 ·rw[if_pos h1]
  have HY:=Lib.hid hY
  generalize qw l (wrap64 (n-1))=y at*
  clear hY
  go_enter Tryz.func117,Tryz.ntmps117
  go_wp2_with fail
  with_reducible refine(HY.out _ (HV.out.below aD)).mono ?_
  rintro e w1 ⟨v1,rfl,hs1,hr1,hb1⟩
  have hz1:=hb1.size
  simp only[World.size_alloc,World.size_setCell] at hz1 hr1
  (have b1:aC w1 (w.heap.size+1) #[.slice none 0 0,.int .i64 0] 46:=pW);(obtain⟨hc1,hf1,hl1,hn1,hm1⟩:=b1.rules);(have K1:=Lib.hid b1);(clear b1)
  have TV:=Lib.hid hs1
  have HR1:=Lib.hid hr1
  obtain⟨a1,Pk,rfl,_⟩:=hs1.shape
  clear hs1 hr1
  go_wp2_with fail
  exact bodyPost_ret (v:= .agg #[.slice a1 (ints y.1).length Pk,.int .i64 y.2]) (by simp[results,Tryz.results117,go_sem,hc1]) rfl
   ⟨_,rfl,HV.out.nG (HV.out.nG TV.out HR1.out ah ah _ _) HR1.out ah ah _ _,HR1.out.le ah,aD⟩
 ·rw[if_neg h1]
  clear hY
  go_enter Tryz.func117,Tryz.ntmps117
  go_wp2_with fail
  exact bodyPost_ret (v:= .agg #[.slice a l.length cap,.int .i64 (wrap64 (n-1))]) YG rfl ⟨_,rfl,HV.out.below aD,vD.same,aD⟩
theorem KH(v:Value)(l:List Int)(n pid:Int)(w:World)(hv:Sl w false 1 v (ints l))(hby:l.length*8≤140737488351232):
  Calls Tryz.prog 89 #[.agg #[v,.int .i64 n],.int .i64 pid] w fun e w'=>∃v',e=.returned (.agg #[v',.int .i64 (oL l n pid).2])∧Sl w' false 1 v' (ints (oL l n pid).1)∧vD w.heap.size v (ints l) v' (ints (oL l n pid).1)∧Below w.heap.size w w':=by
 have HV:=Lib.hid hv
 have hC:=fun W h=>Le v l pid W h
 unfold oL
 obtain⟨a,cap,rfl,hl⟩:=hv.shape
 clear hv
 rw[gT] at hl HV hC⊢
 by_cases hp:pid∈l
 ·rw[if_pos hp]
  rw[show decide (pid∈l)=true by simpa using hp] at hC
  clear hp
  go_enter Tryz.func89,Tryz.ntmps89
  go_wp2_with fail
  with_reducible refine(hC _ (HV.out.below aD)).mono ?_
  rintro e w1 ⟨rfl,hb1⟩
  have hz1:=hb1.size
  simp only[World.size_alloc] at hz1
  (have b1:aC w1 w.heap.size #[.slice a l.length cap,.int .i64 n] 46:=pW);(obtain⟨hc1,hf1,hl1,hn1,hm1⟩:=b1.rules);(have K1:=Lib.hid b1);(clear b1)
  (have b2:aC w1 (w.heap.size+1) #[.slice none 0 0,.int .i64 0] 46:=vE);(obtain⟨hc2,hf2,hl2,hn2,hm2⟩:=b2.rules);(have K2:=Lib.hid b2);(clear b2)
  have hbw:Below w.heap.size w w1:=aD
  go_wp2_with fail
  exact bodyPost_ret (v:= .agg #[.slice a l.length cap,.int .i64 n]) (by simp[results,Tryz.results89,go_sem,hc2]) rfl
   ⟨_,rfl,HV.out.nG (HV.out.nG (HV.out.below hbw) (N:=w.heap.size+1+1) vD.same ah ah _ _) (N:=w.heap.size+1+1) vD.same ah ah _ _,vD.same,aD⟩
 ·rw[if_neg hp]
  rw[show decide (pid∈l)=false by simpa using hp] at hC
  clear hp
  have hvx:Val false 1 (.int .i64 pid):=⟨rfl,rfl⟩
  by_cases h0:l=[]
  ·subst h0
   rw[if_pos rfl]
   simp only[List.length_nil] at HV hC hl⊢
   go_enter Tryz.func89,Tryz.ntmps89
   go_wp2_with fail
   with_reducible refine(hC _ (HV.out.below aD)).mono ?_
   rintro e w1 ⟨rfl,hb1⟩
   have hz1:=hb1.size
   simp only[World.size_alloc] at hz1
   (have b1:aC w1 w.heap.size #[.slice a 0 cap,.int .i64 n] 46:=pW);(obtain⟨hc1,hf1,hl1,hn1,hm1⟩:=b1.rules);(have K1:=Lib.hid b1);(clear b1)
   (have b2:aC w1 (w.heap.size+1) #[.slice none 0 0,.int .i64 0] 46:=vE);(obtain⟨hc2,hf2,hl2,hn2,hm2⟩:=b2.rules);(have K2:=Lib.hid b2);(clear b2)
   have hbw:Below w.heap.size w w1:=aD
   have TU:=Lib.hid (HV.out.nG (HV.out.below hbw) (N:=w.heap.size+1) vD.same (Nat.le_refl _) ah 1 (.int .i64 5))
   have HV2:=Lib.hid (HV.out.below hbw)
   go_wp2_with fail
   with_reducible refine(zx (.slice a 0 cap) (.slice (some ⟨w1.heap.size,0,none⟩) 1 1) [] [pid] (w1.heap.size+1) _ ?_ ?_ ?_ ?_ ?_ ?_).mono ?_
   focus exact TU.out.below aD
   focus(refine Sl.alloc (Sl.qE (x:= .int .i64 pid) hvx ?_) _;simp)
   focus(first|(solve|simp)|(simp;omega))
   focus exact(aC.new1 _ _ _ aI).rules.1 0
   focus exact(aC.new1 _ _ _ aI).rules.1 1
   focus(first|(solve|simp)|(simp;omega)|omega)
   rintro e w4 ⟨v4,rfl,qR,hb4⟩
   have vT:=hb4.size
   simp only[World.size_alloc,World.size_setCell] at vT
   have sj:=Lib.hid (qR.le (base':=w1.heap.size) adl)
   have k1:=K1.out
   have k2:=K2.out
   (have b3:aC w4 w.heap.size #[.slice a 0 cap,.int .i64 5] 46:=z_);(obtain⟨hc3,hf3,hl3,sU,ng⟩:=b3.rules);(have K3:=Lib.hid b3);(clear b3)
   (have b4:aC w4 (w.heap.size+1) #[.slice none 0 0,.int .i64 0] 46:=EF);(obtain⟨hc4,xY,hl4,DL,Ir⟩:=b4.rules);(have K4:=Lib.hid b4);(clear b4)
   obtain⟨g4,cap4,rfl,_⟩:=qR.form aI
   rw[show(ints ([]++[pid])).length=1 by simp] at sj⊢
   have af8:Below w.heap.size w w4:=aD
   clear qR k1 k2 hc1 hf1 hl1 hn1 hm1 hc2 hf2 hl2 hn2 hm2
   go_wp2_with fail
   exact bodyPost_ret (v:= .agg #[.slice (some ⟨g4,0,none⟩) 1 cap4,.int .i64 5]) YP rfl
    ⟨_,rfl,(((sj.out.setOther (b:=w.heap.size) ah _ _).setOther (b:=w.heap.size+1) ah _ _).setOther (b:=w.heap.size+1) ah _ _).sl,sj.out.res (N:=w.heap.size) ah,aD⟩
  ·rw[if_neg h0]
   have hlp:0<l.length:=List.length_pos_iff.2 h0
   have hne:((l.length:Int)==0)=false:=mF
   clear h0
   go_enter Tryz.func89,Tryz.ntmps89
   go_wp2_with fail
   with_reducible refine(hC _ (HV.out.below aD)).mono ?_
   rintro e w1 ⟨rfl,hb1⟩
   have hz1:=hb1.size
   simp only[World.size_alloc] at hz1
   (have b1:aC w1 w.heap.size #[.slice a l.length cap,.int .i64 n] 46:=pW);(obtain⟨hc1,hf1,hl1,hn1,hm1⟩:=b1.rules);(have K1:=Lib.hid b1);(clear b1)
   (have b2:aC w1 (w.heap.size+1) #[.slice none 0 0,.int .i64 0] 46:=vE);(obtain⟨hc2,hf2,hl2,hn2,hm2⟩:=b2.rules);(have K2:=Lib.hid b2);(clear b2)
   have hbw:Below w.heap.size w w1:=aD
   have TU:=Lib.hid (HV.out.nG (HV.out.below hbw) (N:=w.heap.size+1) vD.same (Nat.le_refl _) ah 1 (.int .i64 5))
   have HV2:=Lib.hid (HV.out.below hbw)
   go_wp2_with fail
   with_reducible refine(zx (.slice a l.length cap) (.slice (some ⟨w1.heap.size,0,none⟩) 1 1) l [pid] (w1.heap.size+1) _ ?_ ?_ ?_ ?_ ?_ ?_).mono ?_
   focus exact HV2.out.below aD
   focus(refine Sl.alloc (Sl.qE (x:= .int .i64 pid) hvx ?_) _;simp)
   focus(first|(solve|simp)|(simp;omega))
   focus exact(aC.new1 _ _ _ aI).rules.1 0
   focus exact(aC.new1 _ _ _ aI).rules.1 1
   focus(first|(solve|simp)|(simp;omega)|omega)
   rintro e w4 ⟨v4,rfl,qR,hb4⟩
   have vT:=hb4.size
   simp only[World.size_alloc,World.size_setCell] at vT
   have sj:=Lib.hid (qR.le (base':=w1.heap.size) adl)
   have k1:=K1.out
   have k2:=K2.out
   (have b3:aC w4 w.heap.size #[.slice a l.length cap,.int .i64 n] 46:=z_);(obtain⟨hc3,hf3,hl3,sU,ng⟩:=b3.rules);(have K3:=Lib.hid b3);(clear b3)
   (have b4:aC w4 (w.heap.size+1) #[.slice none 0 0,.int .i64 0] 46:=EF);(obtain⟨hc4,xY,hl4,DL,Ir⟩:=b4.rules);(have K4:=Lib.hid b4);(clear b4)
   obtain⟨g4,cap4,rfl,_⟩:=qR.form aI
   rw[show(ints (l++[pid])).length=(l.length+1) by simp] at sj⊢
   have af8:Below w.heap.size w w4:=aD
   clear qR k1 k2 hc1 hf1 hl1 hn1 hm1 hc2 hf2 hl2 hn2 hm2
   go_wp2_with fail
   exact bodyPost_ret (v:= .agg #[.slice (some ⟨g4,0,none⟩) (l.length+1) cap4,.int .i64 n]) YP rfl
    ⟨_,rfl,(((sj.out.setOther (b:=w.heap.size) ah _ _).setOther (b:=w.heap.size+1) ah _ _).setOther (b:=w.heap.size+1) ah _ _).sl,sj.out.res (N:=w.heap.size) ah,aD⟩
end Go.Proofs.YtgmodehldmahiaaGreatDoor.Turn
namespace Go.Proofs.YtgmodehldmahiaaGreatDoor.Turn
open Go Go.RowKit Go.Tm
def qG(x:Int):Value→Bool:=fun v=>match v with|.int _ n=>decide (n=x)|_=>false
theorem Gh(l:List Int)(x:Int):rR l x=idx (qG x) (ints l):=rfl
theorem NS(l:List Int)(x:Int):rR l x=0↔l.head?=some x:=by
 cases l with
 |nil=>simp[rR,idx]
 |cons y r=>
  constructor
  ·intro h
   rw[Gh] at h
   rcases jH (qG x) (ints (y::r)) with⟨h1,_⟩|⟨i,z,h1,h2,h3,_⟩
   ·omega
   ·have:i=0:=by omega
    subst this
    simp at h2
    subst h2
    simp[qG] at h3
    simp[h3]
  ·intro h
   exact Dx (i:=0) ES (by intro j hj;omega)
theorem Gp(l:List Int)(x:Int):(ints l).filter (fun v=>!qG x v)=ints (l.filter fun y=>decide (y≠x)):=by
 rw[ints,ints,List.filter_map]
 congr 1
 apply List.filter_congr
 intro y _
 simp[qG]
theorem pJ:Body Tryz.prog 184:=eZ Tryz.func184 aj aj
theorem Ru:Body Tryz.prog 187:=eZ Tryz.func187 aj aj
theorem qW(x pid:Int)(B:Nat)(w:World)(hc:w.cell? ⟨B,0,none⟩=some (.int .i64 pid)):
  Calls Tryz.prog 184 #[.int .i64 x,.pointer (some ⟨B,0,none⟩)] w fun e w'=>e=.returned (.bool (qG pid (.int .i64 x)))∧Below w.heap.size w w':=by
 have hp:qG pid (.int .i64 x)=decide (x=pid):=rfl
 rw[hp]
 clear hp
 by_cases h:x=pid
 ·subst h
  go_enter Tryz.func184,Tryz.ntmps184
  exact IE
 ·have h1:(x==pid)=false:=by simpa using h
  go_enter Tryz.func184,Tryz.ntmps184
  exact oO
theorem Wm(x pid:Int)(B:Nat)(w:World)(hc:w.cell? ⟨B,0,none⟩=some (.int .i64 pid)):
  Calls Tryz.prog 187 #[.int .i64 x,.pointer (some ⟨B,0,none⟩)] w fun e w'=>e=.returned (.bool (qG pid (.int .i64 x)))∧Below w.heap.size w w':=by
 have hp:qG pid (.int .i64 x)=decide (x=pid):=rfl
 rw[hp]
 clear hp
 by_cases h:x=pid
 ·subst h
  go_enter Tryz.func187,Tryz.ntmps187
  exact IE
 ·have h1:(x==pid)=false:=by simpa using h
  go_enter Tryz.func187,Tryz.ntmps187
  exact oO
theorem zB(l:List Int)(pid:Int)(B:Nat)(w:World)(hB:B<w.heap.size)(hc:w.cell? ⟨B,0,none⟩=some (.int .i64 pid))(g:Option Nat)(hg:some B≠g):
  Pred Tryz.prog w g 184 #[.pointer (some ⟨B,0,none⟩)] (qG pid) (ints l):=
 ⟨pJ,fun w' hw x hm=>by
  obtain⟨n,_,rfl⟩:=List.mem_map.1 hm
  exact qW n pid B w' ((World.cell?_of_block (a:=⟨B,0,none⟩) (hw.block B hB hg)).trans hc)⟩
theorem Gq(l:List Int)(pid:Int)(B:Nat)(w:World)(hB:B<w.heap.size)(hc:w.cell? ⟨B,0,none⟩=some (.int .i64 pid))(g:Option Nat)(hg:some B≠g):
  Pred Tryz.prog w g 187 #[.pointer (some ⟨B,0,none⟩)] (qG pid) (ints l):=
 ⟨Ru,fun w' hw x hm=>by
  obtain⟨n,_,rfl⟩:=List.mem_map.1 hm
  exact Wm n pid B w' ((World.cell?_of_block (a:=⟨B,0,none⟩) (hw.block B hB hg)).trans hc)⟩
theorem AZ(v:Value)(l:List Int)(n pid:Int)(w:World)(hv:Sl w false 1 v (ints l))(hby:l.length*8≤140737488351232):
  Calls Tryz.prog 151 #[.agg #[v,.int .i64 n],.int .i64 pid] w fun e w'=>∃v',e=.returned (.agg #[v',.int .i64 (gM l n pid).2])∧Sl w' false 1 v' (ints (gM l n pid).1)∧vD w.heap.size v (ints l) v' (ints (gM l n pid).1)∧Below w.heap.size w w':=by
 have HV:=Lib.hid hv
 unfold gM
 obtain⟨a,cap,rfl,hl⟩:=hv.shape
 clear hv
 rw[gT] at hl HV⊢
 have hI:=fun W hs hB hc=>pR (.slice a l.length cap) (ints l) 184 #[.pointer (some ⟨w.heap.size+1,0,none⟩)] (qG pid) W hs (zB l pid (w.heap.size+1) W hB hc none aI)
 rw[←Gh] at hI
 have hz:=NS l pid
 rcases Gi l pid with⟨hp,hm⟩|⟨i,hp,hm,hil⟩
 ·rw[if_neg hm]
  rw[hp] at hI
  clear hp hm hz
  go_enter Tryz.func151,Tryz.ntmps151
  go_wp2_with fail
  with_reducible refine(hI _ (HV.out.below ?_) ?_ ?_).mono ?_
  focus exact bl
  focus(simp only[World.size_alloc];omega)
  focus exact(show aC _ (w.heap.size+1) #[.int .i64 pid] 3 by exact bx).rules.1 0
  rintro e w1 ⟨rfl,hb1⟩
  have hz1:=hb1.size
  simp only[World.size_alloc] at hz1
  (have b1:aC w1 w.heap.size #[.slice a l.length cap,.int .i64 n] 46:=pW);(obtain⟨hc1,hf1,hl1,hn1,hm1⟩:=b1.rules);(have K1:=Lib.hid b1);(clear b1)
  (have b2:aC w1 (w.heap.size+1+1) #[.slice none 0 0,.int .i64 0] 46:=vE);(obtain⟨hc2,hf2,hl2,hn2,hm2⟩:=b2.rules);(have K2:=Lib.hid b2);(clear b2)
  have hbw:Below w.heap.size w w1:=aD
  clear hI
  go_wp2_with fail
  exact bodyPost_ret (v:= .agg #[.slice a l.length cap,.int .i64 n]) (by simp[results,Tryz.results151,go_sem,hc2]) rfl
   ⟨_,rfl,HV.out.nG (HV.out.nG (HV.out.below hbw) (N:=w.heap.size+1+1+1) vD.same ah ah _ _) (N:=w.heap.size+1+1+1) vD.same ah ah _ _,vD.same,aD⟩
 ·rw[if_pos hm]
  rw[hp] at hI hz
  have hn1:¬(i:Int)<0:=ah
  by_cases h0:i=0
  ·subst h0
   rw[if_pos (hz.1 rfl)]
   clear hp hm hz
   have hFE:=Gp l pid
   have HFE:=Lib.hid hFE
   clear hFE
   go_enter Tryz.func151,Tryz.ntmps151
   go_wp2_with fail
   with_reducible refine(hI _ (HV.out.below ?_) ?_ ?_).mono ?_
   focus exact bl
   focus(simp only[World.size_alloc];omega)
   focus exact(show aC _ (w.heap.size+1) #[.int .i64 pid] 3 by exact bx).rules.1 0
   rintro e w1 ⟨rfl,hb1⟩
   have hz1:=hb1.size
   simp only[World.size_alloc] at hz1
   (have b1:aC w1 w.heap.size #[.slice a l.length cap,.int .i64 n] 46:=pW);(obtain⟨hc1,hf1,hl1,hn1,hm1⟩:=b1.rules);(have K1:=Lib.hid b1);(clear b1)
   (have b2:aC w1 (w.heap.size+1) #[.int .i64 pid] 3:=vE);(obtain⟨hc2,hf2,hl2,hn2,hm2⟩:=b2.rules);(have K2:=Lib.hid b2);(clear b2)
   (have b3:aC w1 (w.heap.size+1+1) #[.slice none 0 0,.int .i64 0] 46:=z_);(obtain⟨hc3,hf3,hl3,sU,ng⟩:=b3.rules);(have K3:=Lib.hid b3);(clear b3)
   have hbw:Below w.heap.size w w1:=aD
   have TU:=Lib.hid (HV.out.nG (HV.out.below hbw) (N:=w.heap.size+1) vD.same (Nat.le_refl _) ah 1 (.int .i64 5))
   clear hI
   go_wp2_with fail
   with_reducible refine(Jp (.slice a l.length cap) (ints l) _ TU.out (by rw[gT];omega)).mono ?_
   rintro e w2 ⟨v2,rfl,ho2,hb2⟩
   have hz2:=hb2.size
   try simp only[World.size_alloc,World.size_setCell] at hz2
   have lV:=Lib.hid (ho2.le (base':=w1.heap.size) adk)
   have k1:=K1.out
   have k2:=K2.out
   have k3:=K3.out
   (have b4:aC w2 w.heap.size #[.slice a l.length cap,.int .i64 5] 46:=EF);(obtain⟨hc4,xY,hl4,DL,Ir⟩:=b4.rules);(have K4:=Lib.hid b4);(clear b4)
   (have b5:aC w2 (w.heap.size+1) #[.int .i64 pid] 3:=ade);(obtain⟨hc5,hf5,hl5,hn5,hm5⟩:=b5.rules);(have K5:=Lib.hid b5);(clear b5)
   (have b6:aC w2 (w.heap.size+1+1) #[.slice none 0 0,.int .i64 0] 46:=adb);(obtain⟨hc6,hf6,hl6,hn6,Jv⟩:=b6.rules);(have K6:=Lib.hid b6);(clear b6)
   have hbw2:Below w.heap.size w w2:=aD
   have hB2:∀b,b<w1.heap.size→some b≠v2.ownBlock:=fun b hb h=>by have:=lV.out.fP b h.symm;omega
   have yO:=w_ v2 (ints l) 187 #[.pointer (some ⟨w.heap.size+1,0,none⟩)] (qG pid) w2 w1.heap.size lV.out (Gq l pid (w.heap.size+1) w2 ah (K5.out.rules.1 0) v2.ownBlock (hB2 _ ah))
   rw[HFE.out] at yO
   have Pq:=Lib.hid yO
   obtain⟨_,a2,cap2,rfl,_⟩:=lV.out.sl
   rw[gT] at lV Pq hB2⊢
   clear ho2 k1 k2 k3 hc1 hf1 hl1 hn1 hm1 hc2 hf2 hl2 hn2 hm2 hc3 hf3 hl3 sU ng yO
   go_wp2_with fail
   with_reducible refine Pq.out.mono ?_
   rintro e w4 ⟨v4,rfl,hs4,Mt,hg4⟩
   have vT:=hg4.size
   have bx4:aC w4 w.heap.size #[.slice a l.length cap,.int .i64 5] 46:=K4.out.grown hg4 (hB2 _ ah)
   have by4:aC w4 (w.heap.size+1+1) #[.slice none 0 0,.int .i64 0] 46:=K6.out.grown hg4 (hB2 _ ah)
   have nU:Below w.heap.size w w4:=lV.out.below hg4 hbw2 ah ah
   have hR4:vD w1.heap.size (.slice a l.length cap) (ints l) v4 (ints (l.filter fun y=>decide (y≠pid))):= .inr fun b hb=>lV.out.fP b (by rw[←Mt];exact hb)
   have G9:=Lib.hid hs4
   have HR4:=Lib.hid hR4
   obtain⟨hca,hfa,hla,hna,hma⟩:=bx4.rules
   obtain⟨hcb,bn,hlb,hnb,hmb⟩:=by4.rules
   obtain⟨a4,cap4,rfl,_⟩:=hs4.shape
   rw[gT] at G9 HR4⊢
   clear hs4 Mt hg4 hB2 hR4 Pq bx4 by4
   go_wp2_with fail
   exact bodyPost_ret (v:= .agg #[.slice a4 (l.filter fun y=>decide (y≠pid)).length cap4,.int .i64 5]) YR rfl
    ⟨_,rfl,HV.out.nG (HV.out.nG (HV.out.nG G9.out HR4.out (Nat.le_refl _) ah _ _) HR4.out ah ah _ _) HR4.out ah ah _ _,HR4.out.le ah,aD⟩
  ·rw[if_neg (fun h=>h0 (by have:=hz.2 h;omega))]
   have hi0:((i:Int)==0)=false:=mF
   clear h0
   clear hp hm hz
   have hFE:=Gp l pid
   have HFE:=Lib.hid hFE
   clear hFE
   go_enter Tryz.func151,Tryz.ntmps151
   go_wp2_with fail
   with_reducible refine(hI _ (HV.out.below ?_) ?_ ?_).mono ?_
   focus exact bl
   focus(simp only[World.size_alloc];omega)
   focus exact(show aC _ (w.heap.size+1) #[.int .i64 pid] 3 by exact bx).rules.1 0
   rintro e w1 ⟨rfl,hb1⟩
   have hz1:=hb1.size
   simp only[World.size_alloc] at hz1
   (have b1:aC w1 w.heap.size #[.slice a l.length cap,.int .i64 n] 46:=pW);(obtain⟨hc1,hf1,hl1,hn1,hm1⟩:=b1.rules);(have K1:=Lib.hid b1);(clear b1)
   (have b2:aC w1 (w.heap.size+1) #[.int .i64 pid] 3:=vE);(obtain⟨hc2,hf2,hl2,hn2,hm2⟩:=b2.rules);(have K2:=Lib.hid b2);(clear b2)
   (have b3:aC w1 (w.heap.size+1+1) #[.slice none 0 0,.int .i64 0] 46:=z_);(obtain⟨hc3,hf3,hl3,sU,ng⟩:=b3.rules);(have K3:=Lib.hid b3);(clear b3)
   have hbw:Below w.heap.size w w1:=aD
   have TU:=Lib.hid (HV.out.below hbw)
   clear hI
   go_wp2_with fail
   with_reducible refine(Jp (.slice a l.length cap) (ints l) _ TU.out (by rw[gT];omega)).mono ?_
   rintro e w2 ⟨v2,rfl,ho2,hb2⟩
   have hz2:=hb2.size
   try simp only[World.size_alloc,World.size_setCell] at hz2
   have lV:=Lib.hid (ho2.le (base':=w1.heap.size) adk)
   have k1:=K1.out
   have k2:=K2.out
   have k3:=K3.out
   (have b4:aC w2 w.heap.size #[.slice a l.length cap,.int .i64 n] 46:=EF);(obtain⟨hc4,xY,hl4,DL,Ir⟩:=b4.rules);(have K4:=Lib.hid b4);(clear b4)
   (have b5:aC w2 (w.heap.size+1) #[.int .i64 pid] 3:=ade);(obtain⟨hc5,hf5,hl5,hn5,hm5⟩:=b5.rules);(have K5:=Lib.hid b5);(clear b5)
   (have b6:aC w2 (w.heap.size+1+1) #[.slice none 0 0,.int .i64 0] 46:=adb);(obtain⟨hc6,hf6,hl6,hn6,Jv⟩:=b6.rules);(have K6:=Lib.hid b6);(clear b6)
   have hbw2:Below w.heap.size w w2:=aD
   have hB2:∀b,b<w1.heap.size→some b≠v2.ownBlock:=fun b hb h=>by have:=lV.out.fP b h.symm;omega
   have yO:=w_ v2 (ints l) 187 #[.pointer (some ⟨w.heap.size+1,0,none⟩)] (qG pid) w2 w1.heap.size lV.out (Gq l pid (w.heap.size+1) w2 ah (K5.out.rules.1 0) v2.ownBlock (hB2 _ ah))
   rw[HFE.out] at yO
   have Pq:=Lib.hid yO
   obtain⟨_,a2,cap2,rfl,_⟩:=lV.out.sl
   rw[gT] at lV Pq hB2⊢
   clear ho2 k1 k2 k3 hc1 hf1 hl1 hn1 hm1 hc2 hf2 hl2 hn2 hm2 hc3 hf3 hl3 sU ng yO
   go_wp2_with fail
   with_reducible refine Pq.out.mono ?_
   rintro e w4 ⟨v4,rfl,hs4,Mt,hg4⟩
   have vT:=hg4.size
   have bx4:aC w4 w.heap.size #[.slice a l.length cap,.int .i64 n] 46:=K4.out.grown hg4 (hB2 _ ah)
   have by4:aC w4 (w.heap.size+1+1) #[.slice none 0 0,.int .i64 0] 46:=K6.out.grown hg4 (hB2 _ ah)
   have nU:Below w.heap.size w w4:=lV.out.below hg4 hbw2 ah ah
   have hR4:vD w1.heap.size (.slice a l.length cap) (ints l) v4 (ints (l.filter fun y=>decide (y≠pid))):= .inr fun b hb=>lV.out.fP b (by rw[←Mt];exact hb)
   have G9:=Lib.hid hs4
   have HR4:=Lib.hid hR4
   obtain⟨hca,hfa,hla,hna,hma⟩:=bx4.rules
   obtain⟨hcb,bn,hlb,hnb,hmb⟩:=by4.rules
   obtain⟨a4,cap4,rfl,_⟩:=hs4.shape
   rw[gT] at G9 HR4⊢
   clear hs4 Mt hg4 hB2 hR4 Pq bx4 by4
   go_wp2_with fail
   exact bodyPost_ret (v:= .agg #[.slice a4 (l.filter fun y=>decide (y≠pid)).length cap4,.int .i64 n]) YR rfl
    ⟨_,rfl,HV.out.nG (HV.out.nG (HV.out.nG G9.out HR4.out (Nat.le_refl _) ah _ _) HR4.out ah ah _ _) HR4.out ah ah _ _,HR4.out.le ah,aD⟩
end Go.Proofs.YtgmodehldmahiaaGreatDoor.Turn
