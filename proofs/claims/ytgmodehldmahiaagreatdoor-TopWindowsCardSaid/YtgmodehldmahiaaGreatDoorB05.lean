/- Part 5 of 53 of the proof of topAlone_and_topApart. Conditions: see each. -/
import Derived.Test.YtgmodehldmahiaaGreatDoorB01
import Derived.Test.YtgmodehldmahiaaGreatDoorRows
import Derived.Test.YtgmodehldmahiaaGreatDoorB02
set_option linter.unusedVariables false
set_option linter.unusedSimpArgs false
set_option maxRecDepth 8192
set_option maxHeartbeats 40000000
namespace Go.Proofs.YtgmodehldmahiaaGreatDoor.ji
open Go Go.RowKit Go.Tm
theorem lS:Ty Tryz.prog 3 1 false:=⟨ay,ay,aC,ay⟩
theorem sI(v:Value)(xs:List Value)(mG:FuncId)(gI:Array Value)(p:Value→Bool)(w:World)(hsl:Sl w false 1 v xs)(hp:Pred Tryz.prog w none mG gI p xs):
  Calls Tryz.prog 83 #[v,.func (.func mG) #[] gI] w fun e w'=>e=.returned (.int .i64 (idx p xs))∧Below w.heap.size w w':=by
 obtain⟨hsz,a,cap,rfl,hl,hm,dL⟩:=hsl
 unfold maxLen at hm
 have hlen:xs.length≤9223372036854775807:=aj
 go_enter Tryz.func83,Tryz.ntmps83
 go_wp2_with fail
 go_loopw [8] (fun t wr=>∃i:Nat,i≤xs.length∧t=.int .i64 i∧Below w.heap.size w wr∧∀j y,j<i→xs[j]?=some y→p y=false) (fun t _=>xs.length-(intOf t).toNat)
 case atStart=>exact⟨0,Nat.zero_le _,rfl,Below.refl _ _,wR⟩
 case round=>
  obtain⟨i,hi,rfl,bZ,iq⟩:=hrel
  have HP:=ah iq
  clear iq
  by_cases hlt:i<xs.length
  ·obtain⟨x,hx⟩:∃x,xs[i]?=some x:=⟨_,List.getElem?_eq_getElem hlt⟩
   have jW:x∈xs:=List.mem_of_getElem? hx
   have HV:=ah (hsz _ jW)
   obtain⟨b,off,rfl,hb,hcell⟩:∃b off,a=some ⟨b,off,none⟩∧b<w.heap.size∧Cells wr b (off+i*1) x.cells.toList:=Br
   have HX:=ah hx
   have qP:=ah hcell
   clear hx hcell dL hsz
   have jS:=hp.asks wr (aA bZ none) _ jW
   have fJ:=hp.body
   unfold Body at fJ
   have HC:=ah jS
   clear jS hp
   cases jJ:p x
   ·have xS:=ah jJ
    rw[jJ] at HC
    clear jJ
    go_wp2_with(first|(refine aN rfl 3 _ rfl b (off+i*1) dw x lS HV.out qP.out ?_)|fail)
    exact L_
   ·have xS:=ah jJ
    rw[jJ] at HC
    clear jJ
    go_wp2_with(first|(refine aN rfl 3 _ rfl b (off+i*1) dw x lS HV.out qP.out ?_)|fail)
    exact Bt
  ·exact Bu
theorem sV:(Tryz.prog.info? 3).map (fun i=>(i.zero,i.size,i.bytes))=some (some (.int .i64 0),1,8):=by kernel_rfl
theorem NT(v:Value)(xs:List Value)(w:World)(hsl:Sl w false 1 v xs)(hbytes:xs.length*8≤140737488355328):
  Calls Tryz.prog 186 #[v] w fun e w'=>∃v',e=.returned v'∧bI w' w.heap.size 3 false 1 v' xs∧Below w.heap.size w w':=by
 have rF:=ah hsl
 obtain⟨hsz,a,cap,rfl,hl,hm,dL⟩:=hsl
 have hlen:xs.length≤maxLen:=aj
 cases a with
 |none=>
  have h0:xs=[]:=Bp
  subst h0
  have hnil:=fun(n c:Nat) (w:World)=>fE Tryz.prog (t:=44) (n:=n) (c:=c) Tryz.underlying44 w
  clear dL hsz hl hm hlen
  go_enter Tryz.func186,Tryz.ntmps186
  exact Bq
 |some a=>
  have hnil:=fun(n c:Nat) (w:World)=>fD Tryz.prog (t:=44) (a:=a) (n:=n) (c:=c) Tryz.underlying44 w
  obtain⟨i0,hi,hz0,hz1,hz2⟩:=info_parts sV
  have HI:=ah hi
  have HZ:=ah (And.intro hz0 (And.intro hz1 hz2))
  have HS:=ah hsz
  clear hi hz0 hz1 hz2 dL hl hm hsz
  go_enter Tryz.func186,Tryz.ntmps186
  go_wp2_with(first|(refine wpList_append_own _ rfl _ _ 44 rfl w.heap.size 3 i0 (.int .i64 0) 1 8 Tryz.underlying44 HI.out HZ.out.1 HZ.out.2.1 HZ.out.2.2 rfl aC (.slice (some ⟨w.heap.size,0,none⟩) 0 0) 0 [] dw (World.ownsRow_made w #[] 0 (Nat.le_refl _) (Nat.zero_le _) rfl) a xs.length cap (flat xs) dw ?c1 ?c2 ?c3 ?c4 ?c5 ?c6 ?_)|fail)
  case c1=>exact fA HS.out
  case c2=>exact(rF.out.below ((Below.refl _ _).alloc (Nat.le_refl _) _)).news
  case c3=>exact jq HS.out
  case c4=>omega
  case c5=>omega
  case c6=>simp
  exact L9
def vk(l:List Int)(x:Int):Int:=idx (fun v=>match v with|.int _ n=>decide (n=x)|_=>false) (ints l)
theorem Gy{l:List Int}{i:Nat}{x:Int}(h:l[i]?=some x)(hp:∀j,j<i→l[j]?≠some x):vk l x=i:=by
 unfold vk
 refine D8 (x:= .int .i64 x) (by simp[h]) aI ?_
 intro j y hj hy
 rw[List.getElem?_map] at hy
 cases hl:l[j]? with
 |none=>rw[hl] at hy;simp at hy
 |some z=>
  rw[hl] at hy
  simp at hy
  subst hy
  have:=hp j hj
  rw[hl] at this
  simp at this
  simp[this]
theorem TD{l:List Int}{x:Int}(h:x∉l):vk l x=-1:=by
 unfold vk
 refine SE ?_
 intro y hy
 obtain⟨n,hn,rfl⟩:=List.mem_map.1 hy
 simp
 rintro rfl
 exact h hn
theorem aaY(v:Value)(l:List Int)(x:Int)(w:World)(hv:Sl w false 1 v (ints l)):
  Calls Tryz.prog 134 #[v,.int .i64 x] w fun e w'=>e=.returned (.int .i64 (vk l x))∧Below w.heap.size w w':=by
 have HV:=ah hv
 obtain⟨a,cap,rfl,hl⟩:=hv.shape
 clear hv
 rw[gH] at hl HV⊢
 go_enter Tryz.func134,Tryz.ntmps134
 go_wp2_with fail
 go_loopw [8] (fun t W=>∃i:Nat,i≤l.length∧t=.int .i64 i∧Below w.heap.size w W∧∀j,j<i→l[j]?≠some x) (fun t _=>l.length-(intOf t).toNat)
 case atStart=>exact⟨0,Nat.zero_le _,rfl,Below.refl _ _,by intro j h;omega⟩
 case round=>
  obtain⟨i,hi,rfl,bZ,iq⟩:=hrel
  have HP:=ah iq
  have Bj:=bZ.size
  clear iq
  by_cases hlt:i<l.length
  ·obtain⟨y,hy⟩:∃y,l[i]?=some y:=⟨_,List.getElem?_eq_getElem hlt⟩
   obtain⟨b,off,rfl,hb,hcell⟩:=(HV.out.below bZ).at (Sz hy)
   have c0:wr.cell? ⟨b,off+i,none⟩=some (.int .i64 y):=by have:=hcell 0 _ rfl;simpa using this
   have hwr:IntKind.i64.wrap ((i:Int)+1)=i+1:=IntWalk.i64_in _ aj
   have HY:=ah hy
   clear hcell hy
   by_cases Hq:x=y
   ·subst Hq
    go_wp2_with fail
    try go_region
    go_wp2_with fail
    go_ret
    exact⟨by rw[Gy HY.out HP.out];rfl,aG⟩
   ·have n1:(x==y)=false:=by simpa using Hq
    have n2:(x !=y)=true:=by simpa using Hq
    go_wp2_with fail
    try go_region
    go_wp2_with fail
    go_roundw
    case rel=>
     refine⟨i+1,aj,dn,aG,?_⟩
     intro j hj
     rcases Nat.lt_succ_iff_lt_or_eq.1 hj with hj|rfl
     ·exact HP.out j hj
     ·rw[HY.out];intro h;exact Hq (Option.some.inj h).symm
    case measure=>simp[intOf];omega
  ·go_wp2_with fail
   go_ret
   refine⟨?_,bZ⟩
   rw[TD];·rfl
   intro hm
   obtain⟨j,hj,hxj⟩:=List.getElem_of_mem hm
   exact HP.out j aj adv
theorem Kk(l:List Int)(x:Int):(vk l x=-1∧x∉l)∨(∃i:Nat,vk l x=i∧x∈l∧i<l.length):=by
 unfold vk idx
 cases h:(ints l).findIdx? _ with
 |none=>
  refine .inl ⟨rfl,fun hm=>?_⟩
  rw[List.findIdx?_eq_none_iff] at h
  have:=h (.int .i64 x) (List.mem_map.2 ⟨x,hm,rfl⟩)
  simp at this
 |some i=>
  rw[List.findIdx?_eq_some_iff_getElem] at h
  obtain⟨hi,hp,_⟩:=h
  refine .inr ⟨i,rfl,?_,OQ⟩
  simp at hp
  rw[←hp]
  exact List.getElem_mem _
theorem Qk(v:Value)(l:List Int)(x:Int)(w:World)(hv:Sl w false 1 v (ints l)):
  Calls Tryz.prog 106 #[v,.int .i64 x] w fun e w'=>e=.returned (.bool (decide (x∈l)))∧Below w.heap.size w w':=by
 have hI:=fun W h=>aaY v l x W h
 have HV:=ah hv
 obtain⟨a,cap,rfl,hl⟩:=hv.shape
 clear hv
 rw[gH] at hl HV hI⊢
 rcases Kk l x with⟨hp,hm⟩|⟨i,hp,hm,_⟩
 all_goals
  rw[hp] at hI
  go_enter Tryz.func106,Tryz.ntmps106
  go_wp2_with fail
  with_reducible refine(hI _ (HV.out)).mono ?_
  rintro e w1 ⟨rfl,hb1⟩
  go_wp2_with fail
  go_ret
  exact⟨by simp[hm],aG⟩
theorem afh(n:Nat)(w:World)(hn:n*8≤140737488355328):
  Calls Tryz.prog 162 #[.slice none 0 0,.int .i64 n] w fun e w'=>∃v',e=.returned v'∧bI w' w.heap.size 3 false 1 v' []∧Below w.heap.size w w':=by
 obtain⟨i0,qN,oq,gD,mh⟩:=info_parts sV
 have HI:=ah (And.intro qN (And.intro oq (And.intro gD mh)))
 clear qN oq gD mh
 by_cases h0:n=0
 ·subst h0
  go_enter Tryz.func162,Tryz.ntmps162
  go_wp2_with fail
  go_ret
  exact⟨_,rfl,bI.nil,aG⟩
 ·go_enter Tryz.func162,Tryz.ntmps162
  go_wp2_with(first|(refine Bf (base:=w.heap.size) (E:=3) (ag:=false) (k:=1) rfl _ _ 44 3 rfl lS i0 (.int .i64 0) .i64 8 Tryz.underlying44 Tryz.underlying3 HI.out.1 HI.out.2.1 HI.out.2.2.1 HI.out.2.2.2 rfl ?_ n aj ?_ ?_ aj (Nat.le_refl _) ?_;(focus(simp[Act.eval]));(focus(simp[Act.eval]));(focus(unfold maxLen;omega));(intro jl w2 hc2 o7 hg2;have hb2:Below w.heap.size w w2:=bJ hg2;have nR:=ah o7;clear o7 hg2))|fail)
  go_ret
  exact⟨_,rfl,nR.out,hb2⟩
theorem Xd(v1 v2:Value)(l1 l2:List Int)(B:Nat)(w:World)(h1:Sl w false 1 v1 (ints l1))(h2:Sl w false 1 v2 (ints l2))(hB:B<w.heap.size)
  (c0:w.cell? ⟨B,0,none⟩=some v1)(c1:w.cell? ⟨B,1,none⟩=some v2)(hby:(l1.length+l2.length)*8≤140737488355328):
  Calls Tryz.prog 135 #[.slice (some ⟨B,0,none⟩) 2 2] w fun e w'=>∃v',e=.returned v'∧bI w' w.heap.size 3 false 1 v' (ints (l1++l2))∧Below w.heap.size w w':=by
 have H1:=ah h1
 have H2:=ah h2
 obtain⟨a1,U2,rfl,jO⟩:=h1.shape
 obtain⟨a2,jl,rfl,hl2⟩:=h2.shape
 obtain⟨i0,qN,oq,gD,mh⟩:=info_parts sV
 have HI:=ah (And.intro qN (And.intro oq (And.intro gD mh)))
 clear qN oq gD mh h1 h2
 rw[gH] at jO hl2 c0 c1 H1 H2
 go_enter Tryz.func135,Tryz.ntmps135
 go_wp2_with fail
 go_loopw [3,11] (fun s t W=>∃i:Nat,i≤2∧t=.int .i64 i∧Below w.heap.size w W∧s=.int .i64 ((if 0<i then(l1.length:Int) else 0)+(if 1<i then(l2.length:Int) else 0))) (fun _ t _=>2-(intOf t).toNat)
 case atStart=>exact⟨0,aj,rfl,Below.refl _ _,rfl⟩
 case round=>
  obtain⟨i,hi,rfl,bZ,rfl⟩:=hrel
  have Bj:=bZ.size
  have d0:wr.cell? ⟨B,0,none⟩=some (.slice a1 l1.length U2):=(bZ.cell (p:=⟨B,0,none⟩) hB).trans c0
  have d1:wr.cell? ⟨B,1,none⟩=some (.slice a2 l2.length jl):=(bZ.cell (p:=⟨B,1,none⟩) hB).trans c1
  have C0:=ah c0
  have C1:=ah c1
  clear c0 c1
  have hs1:IntKind.i64.wrap (0+(l1.length:Int))=l1.length:=Jk
  have hs2:IntKind.i64.wrap ((l1.length:Int)+l2.length)=l1.length+l2.length:=IntWalk.i64_in _ aj
  obtain rfl|rfl|rfl:i=0∨i=1∨i=2:=by omega
  ·go_wp2_with fail
   go_roundw
   case rel=>exact⟨1,aj,rfl,bZ,aI⟩
   case measure=>simp[intOf]
  ·go_wp2_with fail
   go_roundw
   case rel=>exact⟨2,aj,rfl,bZ,aI⟩
   case measure=>simp[intOf]
  ·have af0:((if 0<2 then(l1.length:Int) else 0)+(if 1<2 then(l2.length:Int) else 0))=((l1.length+l2.length:Nat):Int):=by simp
   rw[af0]
   have hG:=afh (l1.length+l2.length) wr hby
   simp only[Int.natCast_add] at hG⊢
   clear af0 hs1 hs2
   go_wp2_with fail
   with_reducible refine hG.mono ?_
   rintro e w2 ⟨v2,rfl,o7,hb2⟩
   have hz2:=hb2.size
   have nR:=ah (o7.le Bj)
   clear o7 hG
   go_wp2_with fail
   go_loopw [6,27] (fun u t W=>∃(i:Nat) (tv:Value),i≤2∧tv=u∧t=.int .i64 i∧Below w.heap.size w W∧bI W w.heap.size 3 false 1 u (if i=0 then[] else if i=1 then ints l1 else ints l1++ints l2)) (fun _ t _=>2-(intOf t).toNat)
   case atStart=>exact⟨0,_,aj,rfl,rfl,aG,nR.out⟩
   case round=>
    obtain⟨i,tv,hi,rfl,rfl,bM,hown⟩:=hrel
    have d0:wr.cell? ⟨B,0,none⟩=some (.slice a1 l1.length U2):=(bM.cell (p:=⟨B,0,none⟩) hB).trans C0.out
    have d1:wr.cell? ⟨B,1,none⟩=some (.slice a2 l2.length jl):=(bM.cell (p:=⟨B,1,none⟩) hB).trans C1.out
    have aoZ:=bM.size
    have HO:=ah hown
    clear hown
    have G1:=ah (H1.out.below bM)
    have G2:=ah (H2.out.below bM)
    obtain rfl|rfl|rfl:i=0∨i=1∨i=2:=by omega
    ·have HO:=ah (show bI wr w.heap.size 3 false 1 tv [] from HO.out)
     go_wp2_with(first|(refine dJ (v:=tv) (xs:=[]) (base:=w.heap.size) rfl _ _ 44 rfl lS i0 (.int .i64 0) 8 Tryz.underlying44 HI.out.1 HI.out.2.1 HI.out.2.2.1 HI.out.2.2.2 rfl ?_ ?_ (.slice a1 l1.length U2) (ints l1) ?_ ?_ ?_ ?_ ?_ ?_;(exact aM);(focus(exact HO.out));(exact aM);(focus(exact G1.out));(exact vV);(exact vU);(exact vW);(intro v4 w4 qz hg4 xQ;have hb4:Below w.heap.size w w4:=HO.out.below hg4 aG aj aj;have sD:=ah qz;clear qz hg4 xQ))|fail)
     go_roundw
     case rel=>exact⟨1,_,aj,rfl,rfl,hb4,sD.out⟩
     case measure=>simp[intOf]
    ·have HO:=ah (show bI wr w.heap.size 3 false 1 tv (ints l1) from HO.out)
     go_wp2_with(first|(refine dJ (v:=tv) (xs:=ints l1) (base:=w.heap.size) rfl _ _ 44 rfl lS i0 (.int .i64 0) 8 Tryz.underlying44 HI.out.1 HI.out.2.1 HI.out.2.2.1 HI.out.2.2.2 rfl ?_ ?_ (.slice a2 l2.length jl) (ints l2) ?_ ?_ ?_ ?_ ?_ ?_;(exact aM);(focus(exact HO.out));(exact aM);(focus(exact G2.out));(exact vV);(exact vU);(exact vW);(intro v4 w4 qz hg4 xQ;have hb4:Below w.heap.size w w4:=HO.out.below hg4 aG aj aj;have sD:=ah qz;clear qz hg4 xQ))|fail)
     go_roundw
     case rel=>exact⟨2,_,aj,rfl,rfl,hb4,sD.out⟩
     case measure=>simp[intOf]
    ·have HO:=ah (show bI wr w.heap.size 3 false 1 tv (ints l1++ints l2) from HO.out)
     go_wp2_with fail
     go_ret
     exact⟨_,rfl,by rw[ints,List.map_append];exact HO.out,bM⟩
end Go.Proofs.YtgmodehldmahiaaGreatDoor.ji
namespace Go.Proofs.YtgmodehldmahiaaGreatDoor.ji
open Go Go.RowKit Go.Tm
theorem aee:Val false 1 (.int .i64 0):=⟨rfl,rfl⟩
theorem Ai(v:Value)(xs:List Value)(mG:FuncId)(gI:Array Value)(p:Value→Bool)(w:World)(base:Nat)(ho:bI w base 3 false 1 v xs)(hp:Pred Tryz.prog w v.ownBlock mG gI p xs):
  Calls Tryz.prog 185 #[v,.func (.func mG) #[] gI] w fun e w'=>∃v',e=.returned v'∧Sl w' false 1 v' (xs.filter fun x=>!p x)∧v'.ownBlock=v.ownBlock∧w.grownBy w' v.ownBlock:=by
 have hI:=sI v xs mG gI p w ho.sl ⟨hp.body,fun w' hg x hx=>hp.asks w' ⟨hg.os,hg.tape,hg.output,hg.size,fun b hb _=>hg.block b hb aI⟩ x hx⟩
 rcases kU p xs with⟨hi,hall⟩|⟨i0,x0,hi,hx0,Mc,iq⟩
 ·rw[hi] at hI
  have HF:=ah (show xs.filter (fun x=>!p x)=xs from List.filter_eq_self.2 (fun x hx=>Je))
  have HO:=ah ho
  clear hp ho hall
  go_enter Tryz.func185,Tryz.ntmps185
  exact Rq
 ·rw[hi] at hI
  have af6:i0<xs.length:=(List.getElem?_eq_some_iff.1 hx0).1
  obtain⟨g,cap,rfl,hlc,hcm,hbg,qI,Hr,_⟩:=ho.form aj
  have hlen:xs.length≤9223372036854775807:=Jg
  have MO:(Value.slice (some ⟨g,0,none⟩) xs.length cap).ownBlock=some g:=rfl
  rw[MO] at hp⊢
  obtain⟨i1,qN,oq,gD,mh⟩:=info_parts sV
  have GL:∀w,(zeroValue 3).run Tryz.prog w=.ok (.int .i64 0) w:=fun w=>by simp[zeroValue,typeInfo,qN,oq]
  have HZV:=ah GL
  clear qN oq gD mh GL Hr
  have Y6:=ah ho
  have HPR:=ah hp
  have fJ:=hp.body
  unfold Body at fJ
  have Da:xs.take i0=(xs.take (i0+1)).filter (fun x=>!p x):=Rs
  have EH:=ah Da
  have afY:IntKind.i64.wrap ((i0:Int)+1)=i0+1:=IntWalk.i64_in _ aj
  have abH:((i0:Int)==-1)=false:=qW
  clear ho hp iq Da hx0 Mc
  go_enter Tryz.func185,Tryz.ntmps185
  go_wp2_with fail
  with_reducible refine hI.mono ?_
  rintro e w1 ⟨rfl,hb1⟩
  have hz1:=hb1.size
  go_wp2_with fail
  go_loopw [5,6] (fun u t W=>∃(i j:Nat) (zs:List Value),i<j∧j≤xs.length∧u=.int .i64 i∧t=.int .i64 j∧zs.length=xs.length∧bI W base 3 false 1 (.slice (some ⟨g,0,none⟩) xs.length cap) zs∧w.grownBy W (some g)∧
   zs.take i=(xs.take j).filter (fun x=>!p x)∧∀r,j≤r→zs[r]?=xs[r]?) (fun _ t _=>xs.length-(intOf t).toNat)
  case atStart=>exact⟨i0,i0+1,xs,aj,aj,rfl,dn,rfl,Y6.out.kept hb1,aA hb1 _,EH.out,fun _ _=>rfl⟩
  case round=>
   obtain⟨i,j,zs,hij,hj,rfl,rfl,hzl,how,qI,wK,hdr⟩:=hrel
   have HO:=ah how
   have HZL:=ah hzl
   have L6:=ah wK
   have UJ:=ah hdr
   have HG:=ah qI
   clear how hzl wK hdr qI
   by_cases hlt:j<xs.length
   ·obtain⟨x,hx⟩:∃x,xs[j]?=some x:=⟨_,List.getElem?_eq_getElem hlt⟩
    have Bh:zs[j]?=some x:=(UJ.out j (Nat.le_refl _)).trans hx
    obtain⟨b',off',FN,agf,hcell⟩:=HO.out.sl.at Bh
    simp only[Option.some.injEq,Addr.mk.injEq,and_true] at FN
    obtain⟨rfl,rfl⟩:=FN
    rw[Nat.zero_add] at hcell
    have qP:=ah hcell
    have HV:=ah (HO.out.val x (List.mem_of_getElem? Bh))
    have HC:=ah (HPR.out.asks wr HG.out x (List.mem_of_getElem? hx))
    have HX:=ah hx
    have hwj:IntKind.i64.wrap ((j:Int)+1)=j+1:=IntWalk.i64_in _ aj
    have hwi:IntKind.i64.wrap ((i:Int)+1)=i+1:=IntWalk.i64_in _ aj
    clear hx Bh hcell
    cases jJ:p x
    ·have xS:=ah jJ
     rw[jJ] at HC
     clear jJ
     have xu:i<zs.length:=wS
     go_wp2_with(first|(refine aN rfl 3 _ rfl g (j*1) dw x lS HV.out qP.out ?_)|((with_reducible refine HC.out.mono ?_);rintro e w2 ⟨rfl,hb2⟩;have hz2:=hb2.size;have nR:=ah (HO.out.kept hb2))|(refine eB (base:=base) rfl _ _ rfl lS g xs.length cap nR.out i xu ?_ x ?_ HV.out ?_;(focus(simp[Act.eval]));(focus(simp[Act.eval]));(intro w3 pz hg3;have uH:=ah pz;have hg3':=aB HG.out (aB (aA hb2 (some g)) hg3);have CZ:=ah hg3';clear pz hg3 hg3'))|fail)
     go_roundw
     case rel=>
      refine⟨i+1,j+1,_,aj,aj,dn,dn,?_,uH.out,CZ.out,?_,?_⟩
      ·exact Jr
      ·rw[eO HX.out,List.filter_append,←L6.out,eO (i:=i) (x:=x) Ji,List.take_set_of_le (Nat.le_refl _)]
       simp[xS.out]
      ·exact Ro
     case measure=>simp[intOf];omega
    ·have xS:=ah jJ
     rw[jJ] at HC
     clear jJ
     go_wp2_with(first|(refine aN rfl 3 _ rfl g (j*1) dw x lS HV.out qP.out ?_)|((with_reducible refine HC.out.mono ?_);rintro e w2 ⟨rfl,hb2⟩;have hz2:=hb2.size;have nR:=ah (HO.out.kept hb2))|fail)
     go_roundw
     case rel=>
      refine⟨i,j+1,zs,aj,aj,rfl,dn,HZL.out,nR.out,aB HG.out (aA hb2 (some g)),?_,fun r hr=>UJ.out r aj⟩
      rw[eO HX.out,List.filter_append,←L6.out]
      simp[xS.out]
     case measure=>simp[intOf];omega
   ·have YO:j=xs.length:=by omega
    subst YO
    have xu:i<zs.length:=wS
    have zC:zs.length-i=xs.length-i:=I_
    go_wp2_with(first|(refine l5 (base:=base) rfl _ 44 rfl lS Tryz.underlying44 HZV.out aee g xs.length cap (cap-i) HO.out i xu ?_ ?_;(focus(rw[zC];simp[Act.eval]));(intro w3 pz hg3;have uH:=ah pz;have CZ:=ah (aB HG.out hg3);clear pz hg3))|fail)
    exact Rp
end Go.Proofs.YtgmodehldmahiaaGreatDoor.ji
namespace Go.Proofs.YtgmodehldmahiaaGreatDoor.ji
open Go Go.RowKit Go.Tm
def tK(l:List Int)(n:Int):List Int×Int:=match l with|[]=>([],n)|x::r=>(r++[x],5)
def wU(l:List Int)(n:Int):List Int×Int:=if l=[] then(l,n) else if wrap64 (n-1)≤0 then tK l (wrap64 (n-1)) else(l,wrap64 (n-1))
def rG(l:List Int)(n pid:Int):List Int×Int:=if pid∈l then(l,n) else(l++[pid],if l=[] then 5 else n)
def iX(l:List Int)(n pid:Int):List Int×Int:=if pid∈l then(l.filter (fun x=>decide (x≠pid)),if l.head?=some pid then 5 else n) else(l,n)
theorem Cy(v1 v2:Value)(l1 l2:List Int)(B:Nat)(w:World)(h1:Sl w false 1 v1 (ints l1))(h2:Sl w false 1 v2 (ints l2))(hB:B<w.heap.size)
  (c0:w.cell? ⟨B,0,none⟩=some v1)(c1:w.cell? ⟨B,1,none⟩=some v2)(hby:(l1.length+l2.length)*8≤140737488355328):
  Calls Tryz.prog 107 #[.slice (some ⟨B,0,none⟩) 2 2] w fun e w'=>∃v',e=.returned v'∧bI w' w.heap.size 3 false 1 v' (ints (l1++l2))∧Below w.heap.size w w':=by
 have hC:=Xd v1 v2 l1 l2 B w h1 h2 hB c0 c1 hby
 clear h1 h2 c0 c1
 go_enter Tryz.func107,Tryz.ntmps107
 go_wp2_with fail
 with_reducible refine hC.mono ?_
 rintro e w1 ⟨v1,rfl,ho,hb1⟩
 have HO:=ah ho
 clear ho
 go_wp2_with fail
 go_ret
 exact⟨_,rfl,HO.out,hb1⟩
theorem xM(v:Value)(l:List Int)(n:Int)(w:World)(hv:Sl w false 1 v (ints l)):
  Calls Tryz.prog 112 #[.agg #[v,.int .i64 n]] w fun e w'=>e=.returned (.tuple #[.int .i64 (l.headD 0),.bool (decide (l≠[]))])∧Below w.heap.size w w':=by
 have HV:=ah hv
 obtain⟨a,cap,rfl,hl⟩:=hv.shape
 rw[gH] at hl HV hv⊢
 cases l with
 |nil=>
  clear hv
  go_enter Tryz.func112,Tryz.ntmps112
  go_wp2_with fail
  exact bodyPost_ret (v:= .tuple #[.int .i64 0,.bool false]) adk rfl ⟨rfl,aG⟩
 |cons x r=>
  obtain⟨b,off,rfl,hb,hcell⟩:=hv.at (i:=0) (x:= .int .i64 x) rfl
  have c0:w.cell? ⟨b,off,none⟩=some (.int .i64 x):=by have:=hcell 0 _ rfl;simpa using this
  clear hcell hv
  have bA:¬b=w.heap.size:=aj
  go_enter Tryz.func112,Tryz.ntmps112
  go_wp2_with fail
  exact bodyPost_ret (v:= .tuple #[.int .i64 x,.bool true]) adk rfl ⟨aI,aG⟩
theorem Nu(v:Value)(l:List Int)(n:Int)(w:World)(hv:Sl w false 1 v (ints l))(hby:l.length*8≤140737488351232):
  Calls Tryz.prog 146 #[.agg #[v,.int .i64 n]] w fun e w'=>∃v',e=.returned (.agg #[v',.int .i64 (tK l n).2])∧Sl w' false 1 v' (ints (tK l n).1)∧yV w.heap.size v (ints l) v' (ints (tK l n).1)∧Below w.heap.size w w':=by
 have HV:=ah hv
 cases l with
 |nil=>
  obtain⟨a,cap,rfl,hl⟩:=hv.shape
  clear hv
  go_enter Tryz.func146,Tryz.ntmps146
  go_wp2_with fail
  exact bodyPost_ret (v:= .agg #[.slice a 0 cap,.int .i64 n]) (by simp[results,Tryz.results146,go_sem]) rfl ⟨_,rfl,HV.out.below aG,yV.same,aG⟩
 |cons x r=>
  obtain⟨u1,hr1,hs1⟩:=hv.Sc (t:=44) lS Tryz.underlying44 1 1 rfl aI
  obtain⟨u2,hr2,hs2⟩:=hv.Sb (t:=44) lS Tryz.underlying44 1 1 rfl aI
  replace hs1:Sl w false 1 u1 (ints r):=hs1
  replace hs2:Sl w false 1 u2 (ints [x]):=hs2
  obtain⟨a1,U2,rfl,jO⟩:=hs1.shape
  obtain⟨a2,jl,rfl,hl2⟩:=hs2.shape
  rw[gH] at hs1 hs2 hr1 hr2
  have Y4:=ah hs1
  have HS2:=ah hs2
  obtain⟨a,cap,rfl,hl⟩:=hv.shape
  rw[gH] at hl HV hv hr1 hr2⊢
  simp only[List.length_cons,List.length_nil] at hr1 hr2 Y4 HS2⊢
  clear hv hs1 hs2
  go_enter Tryz.func146,Tryz.ntmps146
  go_wp2_with fail
  generalize hW2:(w.alloc _).alloc _=w2
  have hb2:Below w.heap.size w w2:=by rw[←hW2];exact bl
  have hz2:w2.heap.size=w.heap.size+1+1:=by rw[←hW2];simp
  have k1:aD w2 w.heap.size #[.slice a (r.length+1) cap,.int .i64 n] 46:=by rw[←hW2];exact bx
  have k2:aD w2 (w.heap.size+1) #[.slice none 0 0,.int .i64 0] 46:=by rw[←hW2];exact bx
  have K2:=ah k2
  have kr:=k1.Ar
  clear hW2 k1 k2
  ((refine gX 6 ay ay ?_);simp only[List.take_succ_cons,List.take_zero,List.drop_succ_cons,List.drop_zero];(repeat(go_big_quiet_step (fail)));(refine wpQuiet_nil ?_);intro _ hw';obtain⟨⟨dq,osq⟩,hw''⟩:=hw';subst hw'';have hq:=below_regrown w2 dq osq;generalize Go.Sort.grow (redrawn w2 dq) osq=w3 at*;have hz3:=hq.size)
  have b3:aD w3 (w.heap.size+1) #[.slice none 0 0,.int .i64 0] 46:=Vi;obtain⟨hc3,hf3,qM,wX,qL⟩:=b3.rules;have K3:=ah b3;clear b3
  clear kr
  go_wp2_with fail
  have hJ:=fun W h1 h2 hB c0 c1=>Cy (.slice a1 r.length U2) (.slice a2 (0+1) jl) r [x] w3.heap.size W h1 h2 hB c0 c1 (by simp;simp at hby;omega)
  with_reducible refine(hJ _ (Y4.out.below ?_) (HS2.out.below ?_) ?_ ?_ ?_).mono ?_
  focus exact bl
  focus exact bl
  focus simp
  focus simp
  focus simp
  rintro e w4 ⟨v4,rfl,qz,hb4⟩
  have xU:=hb4.size
  simp only[World.size_alloc] at xU
  have b4:aD w4 (w.heap.size+1) #[.slice none 0 0,.int .i64 0] 46:=(by(try have k4:=K3.out);exact bx);obtain⟨QJ,xQ,hl4,GR,yR⟩:=b4.rules;have K4:=ah b4;clear b4
  have sD:=ah (qz.le (base':=w3.heap.size) dF)
  obtain⟨g4,EF,rfl,_⟩:=qz.form aI
  rw[show(ints (r++[x])).length=r.length+1 by simp] at sD⊢
  clear qz hJ
  go_wp2_with fail
  exact bodyPost_ret (v:= .agg #[.slice (some ⟨g4,0,none⟩) (r.length+1) EF,.int .i64 5]) (by simp[results,Tryz.results146,go_sem,QJ]) rfl
   ⟨_,rfl,((sD.out.setOther (b:=w.heap.size+1) aj _ _).setOther (b:=w.heap.size+1) aj _ _).sl,sD.out.res (N:=w.heap.size) aj,aG⟩
theorem ZX(v:Value)(l:List Int)(n:Int)(w:World)(hv:Sl w false 1 v (ints l))(hby:l.length*8≤140737488351232):
  Calls Tryz.prog 117 #[.agg #[v,.int .i64 n]] w fun e w'=>∃v',e=.returned (.agg #[v',.int .i64 (wU l n).2])∧Sl w' false 1 v' (ints (wU l n).1)∧yV w.heap.size v (ints l) v' (ints (wU l n).1)∧Below w.heap.size w w':=by
 have HV:=ah hv
 have hY:=fun W h=>Nu v l (wrap64 (n-1)) W h hby
 unfold wU
 obtain⟨a,cap,rfl,hl⟩:=hv.shape
 clear hv
 rw[gH] at hl HV hY⊢
 by_cases h0:l=[]
 ·subst h0
  clear hY
  go_enter Tryz.func117,Tryz.ntmps117
  go_wp2_with fail
  exact bodyPost_ret (v:= .agg #[.slice a 0 cap,.int .i64 n]) adj rfl ⟨_,rfl,HV.out.below aG,yV.same,aG⟩
 rw[if_neg h0]
 have gF:0<l.length:=List.length_pos_iff.2 h0
 have hne:((l.length:Int)==0)=false:=qW
 by_cases h1:wrap64 (n-1)≤0
 ·rw[if_pos h1]
  have HY:=ah hY
  generalize tK l (wrap64 (n-1))=y at*
  clear hY
  go_enter Tryz.func117,Tryz.ntmps117
  go_wp2_with fail
  with_reducible refine(HY.out _ (HV.out.below aG)).mono ?_
  rintro e w1 ⟨v1,rfl,hs1,hr1,hb1⟩
  have hz1:=hb1.size
  simp only[World.size_alloc,World.size_setCell] at hz1 hr1
  have b1:aD w1 (w.heap.size+1) #[.slice none 0 0,.int .i64 0] 46:=sP;obtain⟨hc1,mF,jO,mE,oz⟩:=b1.rules;have K1:=ah b1;clear b1
  have Y4:=ah hs1
  have Eu:=ah hr1
  obtain⟨a1,U2,rfl,_⟩:=hs1.shape
  clear hs1 hr1
  go_wp2_with fail
  exact bodyPost_ret (v:= .agg #[.slice a1 (ints y.1).length U2,.int .i64 y.2]) (by simp[results,Tryz.results117,go_sem,hc1]) rfl
   ⟨_,rfl,HV.out.ql (HV.out.ql Y4.out Eu.out aj aj _ _) Eu.out aj aj _ _,Eu.out.le aj,aG⟩
 ·rw[if_neg h1]
  clear hY
  go_enter Tryz.func117,Tryz.ntmps117
  go_wp2_with fail
  exact bodyPost_ret (v:= .agg #[.slice a l.length cap,.int .i64 (wrap64 (n-1))]) adj rfl ⟨_,rfl,HV.out.below aG,yV.same,aG⟩
theorem P5(v:Value)(l:List Int)(n pid:Int)(w:World)(hv:Sl w false 1 v (ints l))(hby:l.length*8≤140737488351232):
  Calls Tryz.prog 89 #[.agg #[v,.int .i64 n],.int .i64 pid] w fun e w'=>∃v',e=.returned (.agg #[v',.int .i64 (rG l n pid).2])∧Sl w' false 1 v' (ints (rG l n pid).1)∧yV w.heap.size v (ints l) v' (ints (rG l n pid).1)∧Below w.heap.size w w':=by
 have HV:=ah hv
 have hC:=fun W h=>Qk v l pid W h
 unfold rG
 obtain⟨a,cap,rfl,hl⟩:=hv.shape
 clear hv
 rw[gH] at hl HV hC⊢
 by_cases hp:pid∈l
 ·rw[if_pos hp]
  rw[show decide (pid∈l)=true by simpa using hp] at hC
  clear hp
  go_enter Tryz.func89,Tryz.ntmps89
  go_wp2_with fail
  with_reducible refine(hC _ (HV.out.below aG)).mono ?_
  rintro e w1 ⟨rfl,hb1⟩
  have hz1:=hb1.size
  simp only[World.size_alloc] at hz1
  have b1:aD w1 w.heap.size #[.slice a l.length cap,.int .i64 n] 46:=sP;obtain⟨hc1,mF,jO,mE,oz⟩:=b1.rules;have K1:=ah b1;clear b1
  have b2:aD w1 (w.heap.size+1) #[.slice none 0 0,.int .i64 0] 46:=yY;obtain⟨hc2,hf2,hl2,rD,nS⟩:=b2.rules;have K2:=ah b2;clear b2
  have bZ:Below w.heap.size w w1:=aG
  go_wp2_with fail
  exact bodyPost_ret (v:= .agg #[.slice a l.length cap,.int .i64 n]) (by simp[results,Tryz.results89,go_sem,hc2]) rfl
   ⟨_,rfl,HV.out.ql (HV.out.ql (HV.out.below bZ) (N:=w.heap.size+1+1) yV.same aj aj _ _) (N:=w.heap.size+1+1) yV.same aj aj _ _,yV.same,aG⟩
 ·rw[if_neg hp]
  rw[show decide (pid∈l)=false by simpa using hp] at hC
  clear hp
  have hvx:Val false 1 (.int .i64 pid):=⟨rfl,rfl⟩
  by_cases h0:l=[]
  ·subst h0
   rw[if_pos rfl]
   simp only[List.length_nil] at HV hC hl⊢
   go_enter Tryz.func89,Tryz.ntmps89
   go_wp2_with fail
   with_reducible refine(hC _ (HV.out.below aG)).mono ?_
   rintro e w1 ⟨rfl,hb1⟩
   have hz1:=hb1.size
   simp only[World.size_alloc] at hz1
   have b1:aD w1 w.heap.size #[.slice a 0 cap,.int .i64 n] 46:=sP;obtain⟨hc1,mF,jO,mE,oz⟩:=b1.rules;have K1:=ah b1;clear b1
   have b2:aD w1 (w.heap.size+1) #[.slice none 0 0,.int .i64 0] 46:=yY;obtain⟨hc2,hf2,hl2,rD,nS⟩:=b2.rules;have K2:=ah b2;clear b2
   have bZ:Below w.heap.size w w1:=aG
   have Y2:=ah (HV.out.ql (HV.out.below bZ) (N:=w.heap.size+1) yV.same (Nat.le_refl _) aj 1 (.int .i64 5))
   have HV2:=ah (HV.out.below bZ)
   go_wp2_with fail
   with_reducible refine(Cy (.slice a 0 cap) (.slice (some ⟨w1.heap.size,0,none⟩) 1 1) [] [pid] (w1.heap.size+1) _ ?_ ?_ ?_ ?_ ?_ ?_).mono ?_
   focus exact Y2.out.below aG
   focus(refine Sl.alloc (Sl.pQ (x:= .int .i64 pid) hvx ?_) _;simp)
   focus(first|(solve|simp)|(simp;omega))
   focus exact(aD.p9 _ _ _ aI).rules.1 0
   focus exact(aD.p9 _ _ _ aI).rules.1 1
   focus(first|(solve|simp)|(simp;omega)|omega)
   rintro e w4 ⟨v4,rfl,qz,hb4⟩
   have xU:=hb4.size
   simp only[World.size_alloc,World.size_setCell] at xU
   have sD:=ah (qz.le (base':=w1.heap.size) ahR)
   have k1:=K1.out
   have k2:=K2.out
   have b3:aD w4 w.heap.size #[.slice a 0 cap,.int .i64 5] 46:=yC;obtain⟨hc3,hf3,qM,wX,qL⟩:=b3.rules;have K3:=ah b3;clear b3
   have b4:aD w4 (w.heap.size+1) #[.slice none 0 0,.int .i64 0] 46:=BZ;obtain⟨QJ,xQ,hl4,GR,yR⟩:=b4.rules;have K4:=ah b4;clear b4
   obtain⟨g4,EF,rfl,_⟩:=qz.form aI
   rw[show(ints ([]++[pid])).length=1 by simp] at sD⊢
   have akN:Below w.heap.size w w4:=aG
   clear qz k1 k2 hc1 mF jO mE oz hc2 hf2 hl2 rD nS
   go_wp2_with fail
   exact bodyPost_ret (v:= .agg #[.slice (some ⟨g4,0,none⟩) 1 EF,.int .i64 5]) ads rfl
    ⟨_,rfl,(((sD.out.setOther (b:=w.heap.size) aj _ _).setOther (b:=w.heap.size+1) aj _ _).setOther (b:=w.heap.size+1) aj _ _).sl,sD.out.res (N:=w.heap.size) aj,aG⟩
  ·rw[if_neg h0]
   have gF:0<l.length:=List.length_pos_iff.2 h0
   have hne:((l.length:Int)==0)=false:=qW
   clear h0
   go_enter Tryz.func89,Tryz.ntmps89
   go_wp2_with fail
   with_reducible refine(hC _ (HV.out.below aG)).mono ?_
   rintro e w1 ⟨rfl,hb1⟩
   have hz1:=hb1.size
   simp only[World.size_alloc] at hz1
   have b1:aD w1 w.heap.size #[.slice a l.length cap,.int .i64 n] 46:=sP;obtain⟨hc1,mF,jO,mE,oz⟩:=b1.rules;have K1:=ah b1;clear b1
   have b2:aD w1 (w.heap.size+1) #[.slice none 0 0,.int .i64 0] 46:=yY;obtain⟨hc2,hf2,hl2,rD,nS⟩:=b2.rules;have K2:=ah b2;clear b2
   have bZ:Below w.heap.size w w1:=aG
   have Y2:=ah (HV.out.ql (HV.out.below bZ) (N:=w.heap.size+1) yV.same (Nat.le_refl _) aj 1 (.int .i64 5))
   have HV2:=ah (HV.out.below bZ)
   go_wp2_with fail
   with_reducible refine(Cy (.slice a l.length cap) (.slice (some ⟨w1.heap.size,0,none⟩) 1 1) l [pid] (w1.heap.size+1) _ ?_ ?_ ?_ ?_ ?_ ?_).mono ?_
   focus exact HV2.out.below aG
   focus(refine Sl.alloc (Sl.pQ (x:= .int .i64 pid) hvx ?_) _;simp)
   focus(first|(solve|simp)|(simp;omega))
   focus exact(aD.p9 _ _ _ aI).rules.1 0
   focus exact(aD.p9 _ _ _ aI).rules.1 1
   focus(first|(solve|simp)|(simp;omega)|omega)
   rintro e w4 ⟨v4,rfl,qz,hb4⟩
   have xU:=hb4.size
   simp only[World.size_alloc,World.size_setCell] at xU
   have sD:=ah (qz.le (base':=w1.heap.size) ahR)
   have k1:=K1.out
   have k2:=K2.out
   have b3:aD w4 w.heap.size #[.slice a l.length cap,.int .i64 n] 46:=yC;obtain⟨hc3,hf3,qM,wX,qL⟩:=b3.rules;have K3:=ah b3;clear b3
   have b4:aD w4 (w.heap.size+1) #[.slice none 0 0,.int .i64 0] 46:=BZ;obtain⟨QJ,xQ,hl4,GR,yR⟩:=b4.rules;have K4:=ah b4;clear b4
   obtain⟨g4,EF,rfl,_⟩:=qz.form aI
   rw[show(ints (l++[pid])).length=(l.length+1) by simp] at sD⊢
   have akN:Below w.heap.size w w4:=aG
   clear qz k1 k2 hc1 mF jO mE oz hc2 hf2 hl2 rD nS
   go_wp2_with fail
   exact bodyPost_ret (v:= .agg #[.slice (some ⟨g4,0,none⟩) (l.length+1) EF,.int .i64 n]) ads rfl
    ⟨_,rfl,(((sD.out.setOther (b:=w.heap.size) aj _ _).setOther (b:=w.heap.size+1) aj _ _).setOther (b:=w.heap.size+1) aj _ _).sl,sD.out.res (N:=w.heap.size) aj,aG⟩
end Go.Proofs.YtgmodehldmahiaaGreatDoor.ji
namespace Go.Proofs.YtgmodehldmahiaaGreatDoor.ji
open Go Go.RowKit Go.Tm
def uj(x:Int):Value→Bool:=fun v=>match v with|.int _ n=>decide (n=x)|_=>false
theorem Kj(l:List Int)(x:Int):vk l x=idx (uj x) (ints l):=rfl
theorem TB(l:List Int)(x:Int):vk l x=0↔l.head?=some x:=by
 cases l with
 |nil=>simp[vk,idx]
 |cons y r=>
  constructor
  ·intro h
   rw[Kj] at h
   rcases kU (uj x) (ints (y::r)) with⟨h1,_⟩|⟨i,z,h1,h2,h3,_⟩
   ·omega
   ·have:i=0:=by omega
    subst this
    simp at h2
    subst h2
    simp[uj] at h3
    simp[h3]
  ·intro h
   exact Gy (i:=0) BU (by intro j hj;omega)
theorem Ky(l:List Int)(x:Int):(ints l).filter (fun v=>!uj x v)=ints (l.filter fun y=>decide (y≠x)):=by
 rw[ints,ints,List.filter_map]
 congr 1
 apply List.filter_congr
 intro y _
 simp[uj]
theorem r_:Body Tryz.prog 184:=gq Tryz.func184 ay ay
theorem WY:Body Tryz.prog 187:=gq Tryz.func187 ay ay
theorem uF(x pid:Int)(B:Nat)(w:World)(hc:w.cell? ⟨B,0,none⟩=some (.int .i64 pid)):
  Calls Tryz.prog 184 #[.int .i64 x,.pointer (some ⟨B,0,none⟩)] w fun e w'=>e=.returned (.bool (uj pid (.int .i64 x)))∧Below w.heap.size w w':=by
 have hp:uj pid (.int .i64 x)=decide (x=pid):=rfl
 rw[hp]
 clear hp
 by_cases h:x=pid
 ·subst h
  go_enter Tryz.func184,Tryz.ntmps184
  exact Nh
 ·have h1:(x==pid)=false:=by simpa using h
  go_enter Tryz.func184,Tryz.ntmps184
  exact rO
theorem abf(x pid:Int)(B:Nat)(w:World)(hc:w.cell? ⟨B,0,none⟩=some (.int .i64 pid)):
  Calls Tryz.prog 187 #[.int .i64 x,.pointer (some ⟨B,0,none⟩)] w fun e w'=>e=.returned (.bool (uj pid (.int .i64 x)))∧Below w.heap.size w w':=by
 have hp:uj pid (.int .i64 x)=decide (x=pid):=rfl
 rw[hp]
 clear hp
 by_cases h:x=pid
 ·subst h
  go_enter Tryz.func187,Tryz.ntmps187
  exact Nh
 ·have h1:(x==pid)=false:=by simpa using h
  go_enter Tryz.func187,Tryz.ntmps187
  exact rO
theorem CF(l:List Int)(pid:Int)(B:Nat)(w:World)(hB:B<w.heap.size)(hc:w.cell? ⟨B,0,none⟩=some (.int .i64 pid))(g:Option Nat)(hg:some B≠g):
  Pred Tryz.prog w g 184 #[.pointer (some ⟨B,0,none⟩)] (uj pid) (ints l):=
 ⟨r_,fun w' hw x hm=>by
  obtain⟨n,_,rfl⟩:=List.mem_map.1 hm
  exact uF n pid B w' ((World.cell?_of_block (a:=⟨B,0,none⟩) (hw.block B hB hg)).trans hc)⟩
theorem Kz(l:List Int)(pid:Int)(B:Nat)(w:World)(hB:B<w.heap.size)(hc:w.cell? ⟨B,0,none⟩=some (.int .i64 pid))(g:Option Nat)(hg:some B≠g):
  Pred Tryz.prog w g 187 #[.pointer (some ⟨B,0,none⟩)] (uj pid) (ints l):=
 ⟨WY,fun w' hw x hm=>by
  obtain⟨n,_,rfl⟩:=List.mem_map.1 hm
  exact abf n pid B w' ((World.cell?_of_block (a:=⟨B,0,none⟩) (hw.block B hB hg)).trans hc)⟩
theorem Eb(v:Value)(l:List Int)(n pid:Int)(w:World)(hv:Sl w false 1 v (ints l))(hby:l.length*8≤140737488351232):
  Calls Tryz.prog 151 #[.agg #[v,.int .i64 n],.int .i64 pid] w fun e w'=>∃v',e=.returned (.agg #[v',.int .i64 (iX l n pid).2])∧Sl w' false 1 v' (ints (iX l n pid).1)∧yV w.heap.size v (ints l) v' (ints (iX l n pid).1)∧Below w.heap.size w w':=by
 have HV:=ah hv
 unfold iX
 obtain⟨a,cap,rfl,hl⟩:=hv.shape
 clear hv
 rw[gH] at hl HV⊢
 have hI:=fun W hs hB hc=>sI (.slice a l.length cap) (ints l) 184 #[.pointer (some ⟨w.heap.size+1,0,none⟩)] (uj pid) W hs (CF l pid (w.heap.size+1) W hB hc none aI)
 rw[←Kj] at hI
 have hz:=TB l pid
 rcases Kk l pid with⟨hp,hm⟩|⟨i,hp,hm,xW⟩
 ·rw[if_neg hm]
  rw[hp] at hI
  clear hp hm hz
  go_enter Tryz.func151,Tryz.ntmps151
  go_wp2_with fail
  with_reducible refine(hI _ (HV.out.below ?_) ?_ ?_).mono ?_
  focus exact bl
  focus(simp only[World.size_alloc];omega)
  focus exact(show aD _ (w.heap.size+1) #[.int .i64 pid] 3 by exact bx).rules.1 0
  rintro e w1 ⟨rfl,hb1⟩
  have hz1:=hb1.size
  simp only[World.size_alloc] at hz1
  have b1:aD w1 w.heap.size #[.slice a l.length cap,.int .i64 n] 46:=sP;obtain⟨hc1,mF,jO,mE,oz⟩:=b1.rules;have K1:=ah b1;clear b1
  have b2:aD w1 (w.heap.size+1+1) #[.slice none 0 0,.int .i64 0] 46:=yY;obtain⟨hc2,hf2,hl2,rD,nS⟩:=b2.rules;have K2:=ah b2;clear b2
  have bZ:Below w.heap.size w w1:=aG
  clear hI
  go_wp2_with fail
  exact bodyPost_ret (v:= .agg #[.slice a l.length cap,.int .i64 n]) (by simp[results,Tryz.results151,go_sem,hc2]) rfl
   ⟨_,rfl,HV.out.ql (HV.out.ql (HV.out.below bZ) (N:=w.heap.size+1+1+1) yV.same aj aj _ _) (N:=w.heap.size+1+1+1) yV.same aj aj _ _,yV.same,aG⟩
 ·rw[if_pos hm]
  rw[hp] at hI hz
  have mE:¬(i:Int)<0:=aj
  by_cases h0:i=0
  ·subst h0
   rw[if_pos (hz.1 rfl)]
   clear hp hm hz
   have hFE:=Ky l pid
   have HFE:=ah hFE
   clear hFE
   go_enter Tryz.func151,Tryz.ntmps151
   go_wp2_with fail
   with_reducible refine(hI _ (HV.out.below ?_) ?_ ?_).mono ?_
   focus exact bl
   focus(simp only[World.size_alloc];omega)
   focus exact(show aD _ (w.heap.size+1) #[.int .i64 pid] 3 by exact bx).rules.1 0
   rintro e w1 ⟨rfl,hb1⟩
   have hz1:=hb1.size
   simp only[World.size_alloc] at hz1
   have b1:aD w1 w.heap.size #[.slice a l.length cap,.int .i64 n] 46:=sP;obtain⟨hc1,mF,jO,mE,oz⟩:=b1.rules;have K1:=ah b1;clear b1
   have b2:aD w1 (w.heap.size+1) #[.int .i64 pid] 3:=yY;obtain⟨hc2,hf2,hl2,rD,nS⟩:=b2.rules;have K2:=ah b2;clear b2
   have b3:aD w1 (w.heap.size+1+1) #[.slice none 0 0,.int .i64 0] 46:=yC;obtain⟨hc3,hf3,qM,wX,qL⟩:=b3.rules;have K3:=ah b3;clear b3
   have bZ:Below w.heap.size w w1:=aG
   have Y2:=ah (HV.out.ql (HV.out.below bZ) (N:=w.heap.size+1) yV.same (Nat.le_refl _) aj 1 (.int .i64 5))
   clear hI
   go_wp2_with fail
   with_reducible refine(NT (.slice a l.length cap) (ints l) _ Y2.out (by rw[gH];omega)).mono ?_
   rintro e w2 ⟨v2,rfl,o7,hb2⟩
   have hz2:=hb2.size
   try simp only[World.size_alloc,World.size_setCell] at hz2
   have nR:=ah (o7.le (base':=w1.heap.size) ahQ)
   have k1:=K1.out
   have k2:=K2.out
   have k3:=K3.out
   have b4:aD w2 w.heap.size #[.slice a l.length cap,.int .i64 5] 46:=BZ;obtain⟨QJ,xQ,hl4,GR,yR⟩:=b4.rules;have K4:=ah b4;clear b4
   have b5:aD w2 (w.heap.size+1) #[.int .i64 pid] 3:=adC;obtain⟨hc5,hf5,hl5,hn5,hm5⟩:=b5.rules;have K5:=ah b5;clear b5
   have b6:aD w2 (w.heap.size+1+1) #[.slice none 0 0,.int .i64 0] 46:=adB;obtain⟨Oa,hf6,hl6,hn6,AZ⟩:=b6.rules;have K6:=ah b6;clear b6
   have bM:Below w.heap.size w w2:=aG
   have uh:∀b,b<w1.heap.size→some b≠v2.ownBlock:=fun b hb h=>by have:=nR.out.iy b h.symm;omega
   have BQ:=Ai v2 (ints l) 187 #[.pointer (some ⟨w.heap.size+1,0,none⟩)] (uj pid) w2 w1.heap.size nR.out (Kz l pid (w.heap.size+1) w2 aj (K5.out.rules.1 0) v2.ownBlock (uh _ aj))
   rw[HFE.out] at BQ
   have U6:=ah BQ
   obtain⟨_,a2,jl,rfl,_⟩:=nR.out.sl
   rw[gH] at nR U6 uh⊢
   clear o7 k1 k2 k3 hc1 mF jO mE oz hc2 hf2 hl2 rD nS hc3 hf3 qM wX qL BQ
   go_wp2_with fail
   with_reducible refine U6.out.mono ?_
   rintro e w4 ⟨v4,rfl,mg,RA,hg4⟩
   have xU:=hg4.size
   have bx4:aD w4 w.heap.size #[.slice a l.length cap,.int .i64 5] 46:=K4.out.grown hg4 (uh _ aj)
   have by4:aD w4 (w.heap.size+1+1) #[.slice none 0 0,.int .i64 0] 46:=K6.out.grown hg4 (uh _ aj)
   have jK:Below w.heap.size w w4:=nR.out.below hg4 bM aj aj
   have hR4:yV w1.heap.size (.slice a l.length cap) (ints l) v4 (ints (l.filter fun y=>decide (y≠pid))):= .inr fun b hb=>nR.out.iy b (by rw[←RA];exact hb)
   have LJ:=ah mg
   have Y5:=ah hR4
   obtain⟨hca,hfa,Xz,hna,hma⟩:=bx4.rules
   obtain⟨hcb,bC,bn,bA,bE⟩:=by4.rules
   obtain⟨a4,EF,rfl,_⟩:=mg.shape
   rw[gH] at LJ Y5⊢
   clear mg RA hg4 uh hR4 U6 bx4 by4
   go_wp2_with fail
   exact bodyPost_ret (v:= .agg #[.slice a4 (l.filter fun y=>decide (y≠pid)).length EF,.int .i64 5]) adu rfl
    ⟨_,rfl,HV.out.ql (HV.out.ql (HV.out.ql LJ.out Y5.out (Nat.le_refl _) aj _ _) Y5.out aj aj _ _) Y5.out aj aj _ _,Y5.out.le aj,aG⟩
  ·rw[if_neg (fun h=>h0 (by have:=hz.2 h;omega))]
   have qN:((i:Int)==0)=false:=qW
   clear h0
   clear hp hm hz
   have hFE:=Ky l pid
   have HFE:=ah hFE
   clear hFE
   go_enter Tryz.func151,Tryz.ntmps151
   go_wp2_with fail
   with_reducible refine(hI _ (HV.out.below ?_) ?_ ?_).mono ?_
   focus exact bl
   focus(simp only[World.size_alloc];omega)
   focus exact(show aD _ (w.heap.size+1) #[.int .i64 pid] 3 by exact bx).rules.1 0
   rintro e w1 ⟨rfl,hb1⟩
   have hz1:=hb1.size
   simp only[World.size_alloc] at hz1
   have b1:aD w1 w.heap.size #[.slice a l.length cap,.int .i64 n] 46:=sP;obtain⟨hc1,mF,jO,mE,oz⟩:=b1.rules;have K1:=ah b1;clear b1
   have b2:aD w1 (w.heap.size+1) #[.int .i64 pid] 3:=yY;obtain⟨hc2,hf2,hl2,rD,nS⟩:=b2.rules;have K2:=ah b2;clear b2
   have b3:aD w1 (w.heap.size+1+1) #[.slice none 0 0,.int .i64 0] 46:=yC;obtain⟨hc3,hf3,qM,wX,qL⟩:=b3.rules;have K3:=ah b3;clear b3
   have bZ:Below w.heap.size w w1:=aG
   have Y2:=ah (HV.out.below bZ)
   clear hI
   go_wp2_with fail
   with_reducible refine(NT (.slice a l.length cap) (ints l) _ Y2.out (by rw[gH];omega)).mono ?_
   rintro e w2 ⟨v2,rfl,o7,hb2⟩
   have hz2:=hb2.size
   try simp only[World.size_alloc,World.size_setCell] at hz2
   have nR:=ah (o7.le (base':=w1.heap.size) ahQ)
   have k1:=K1.out
   have k2:=K2.out
   have k3:=K3.out
   have b4:aD w2 w.heap.size #[.slice a l.length cap,.int .i64 n] 46:=BZ;obtain⟨QJ,xQ,hl4,GR,yR⟩:=b4.rules;have K4:=ah b4;clear b4
   have b5:aD w2 (w.heap.size+1) #[.int .i64 pid] 3:=adC;obtain⟨hc5,hf5,hl5,hn5,hm5⟩:=b5.rules;have K5:=ah b5;clear b5
   have b6:aD w2 (w.heap.size+1+1) #[.slice none 0 0,.int .i64 0] 46:=adB;obtain⟨Oa,hf6,hl6,hn6,AZ⟩:=b6.rules;have K6:=ah b6;clear b6
   have bM:Below w.heap.size w w2:=aG
   have uh:∀b,b<w1.heap.size→some b≠v2.ownBlock:=fun b hb h=>by have:=nR.out.iy b h.symm;omega
   have BQ:=Ai v2 (ints l) 187 #[.pointer (some ⟨w.heap.size+1,0,none⟩)] (uj pid) w2 w1.heap.size nR.out (Kz l pid (w.heap.size+1) w2 aj (K5.out.rules.1 0) v2.ownBlock (uh _ aj))
   rw[HFE.out] at BQ
   have U6:=ah BQ
   obtain⟨_,a2,jl,rfl,_⟩:=nR.out.sl
   rw[gH] at nR U6 uh⊢
   clear o7 k1 k2 k3 hc1 mF jO mE oz hc2 hf2 hl2 rD nS hc3 hf3 qM wX qL BQ
   go_wp2_with fail
   with_reducible refine U6.out.mono ?_
   rintro e w4 ⟨v4,rfl,mg,RA,hg4⟩
   have xU:=hg4.size
   have bx4:aD w4 w.heap.size #[.slice a l.length cap,.int .i64 n] 46:=K4.out.grown hg4 (uh _ aj)
   have by4:aD w4 (w.heap.size+1+1) #[.slice none 0 0,.int .i64 0] 46:=K6.out.grown hg4 (uh _ aj)
   have jK:Below w.heap.size w w4:=nR.out.below hg4 bM aj aj
   have hR4:yV w1.heap.size (.slice a l.length cap) (ints l) v4 (ints (l.filter fun y=>decide (y≠pid))):= .inr fun b hb=>nR.out.iy b (by rw[←RA];exact hb)
   have LJ:=ah mg
   have Y5:=ah hR4
   obtain⟨hca,hfa,Xz,hna,hma⟩:=bx4.rules
   obtain⟨hcb,bC,bn,bA,bE⟩:=by4.rules
   obtain⟨a4,EF,rfl,_⟩:=mg.shape
   rw[gH] at LJ Y5⊢
   clear mg RA hg4 uh hR4 U6 bx4 by4
   go_wp2_with fail
   exact bodyPost_ret (v:= .agg #[.slice a4 (l.filter fun y=>decide (y≠pid)).length EF,.int .i64 n]) adu rfl
    ⟨_,rfl,HV.out.ql (HV.out.ql (HV.out.ql LJ.out Y5.out (Nat.le_refl _) aj _ _) Y5.out aj aj _ _) Y5.out aj aj _ _,Y5.out.le aj,aG⟩
end Go.Proofs.YtgmodehldmahiaaGreatDoor.ji
