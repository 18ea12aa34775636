/- Part 9 of 50 of the proof of topWindows_holds. Conditions: see each. -/
import Derived.Test.YtgmodehldmahiaaGreatDoorW01
import Derived.Test.YtgmodehldmahiaaGreatDoorW02
set_option linter.unusedVariables false
set_option linter.unusedSimpArgs false
set_option maxRecDepth 8192
set_option maxHeartbeats 40000000
namespace Go.Proofs.YtgmodehldmahiaaGreatDoor.bf
abbrev Ch:=Int×Int×Int×Int×Int
def rE(cs:List Ch)(part:Int):List Ch:=cs.filter fun c=>decide (c.2.1=part)
def sZ(cs:List Ch)(part:Int):List Ch:=cs.filter fun c=>decide (c.2.2.1=part)
end Go.Proofs.YtgmodehldmahiaaGreatDoor.bf
namespace Go.Proofs.YtgmodehldmahiaaGreatDoor.bf
open Go Go.RowKit Go.Tm
abbrev uI(a:Ch):Value:= .agg #[.int .i64 a.1,.int .i64 a.2.1,.int .i64 a.2.2.1,.int .i64 a.2.2.2.1,.int .i64 a.2.2.2.2]
abbrev lU(l:List Ch):List Value:=l.map uI
theorem Qv(a:Ch):Val true 5 (uI a):=⟨_,rfl,rfl,by intro c hc;simp at hc;rcases hc with rfl|rfl|rfl|rfl|rfl<;>rfl⟩
theorem qN(l:List Ch):(lU l).length=l.length:=by simp
theorem El{l:List Ch}{i:Nat}{a:Ch}(h:l[i]?=some a):(lU l)[i]?=some (uI a):=by simp[h]
theorem Sl.ch{w:World}{a:Option Addr}{n cap:Nat}{l:List Ch}(h:Sl w true 5 (.slice a n cap) (lU l)){i:Nat}{x:Ch}(hx:l[i]?=some x):
  ∃b off,a=some ⟨b,off,none⟩∧b<w.heap.size∧w.cell? ⟨b,off+i*5,none⟩=some (.int .i64 x.1)∧w.cell? ⟨b,off+i*5+1,none⟩=some (.int .i64 x.2.1)∧w.cell? ⟨b,off+i*5+2,none⟩=some (.int .i64 x.2.2.1)∧w.cell? ⟨b,off+i*5+3,none⟩=some (.int .i64 x.2.2.2.1)∧w.cell? ⟨b,off+i*5+4,none⟩=some (.int .i64 x.2.2.2.2):=by
 obtain⟨b,off,ha,hb,hcell⟩:=h.at (El hx)
 exact⟨b,off,ha,hb,hcell 0 _ rfl,hcell 1 _ rfl,hcell 2 _ rfl,hcell 3 _ rfl,hcell 4 _ rfl⟩
theorem lX:Ty Tryz.prog 95 5 true:=⟨aj,aj,aB,aj⟩
theorem Jj:(Tryz.prog.info? 95).map (fun i=>(i.zero,i.size,i.bytes))=some (some (.agg #[.int .i64 0,.int .i64 0,.int .i64 0,.int .i64 0,.int .i64 0]),5,40):=by kernel_rfl
theorem zF(v:Value)(xs:List Value)(w:World)(hsl:Sl w true 5 v xs)(hbytes:xs.length*40≤140737488355328):
  Calls Tryz.prog 71 #[v] w fun e w'=>∃v',e=.returned v'∧bB w' w.heap.size 95 true 5 v' xs∧Below w.heap.size w w':=by
 have hsl0:=Lib.hid hsl
 obtain⟨hsz,a,cap,rfl,hl,hm,hform⟩:=hsl
 have hlen:xs.length≤maxLen:=ah
 cases a with
 |none=>
  have h0:xs=[]:=yu
  subst h0
  have hnil:=fun(n c:Nat) (w:World)=>eD Tryz.prog (t:=24) (n:=n) (c:=c) Tryz.underlying24 w
  clear hform hsz hl hm hlen
  go_enter Tryz.func71,Tryz.ntmps71
  exact yw
 |some a=>
  have hnil:=fun(n c:Nat) (w:World)=>eB Tryz.prog (t:=24) (a:=a) (n:=n) (c:=c) Tryz.underlying24 w
  obtain⟨i0,hi,hz0,hz1,hz2⟩:=info_parts Jj
  have HI:=Lib.hid hi
  have HZ:=Lib.hid (And.intro hz0 (And.intro hz1 hz2))
  have HS:=Lib.hid hsz
  clear hi hz0 hz1 hz2 hform hl hm hsz
  go_enter Tryz.func71,Tryz.ntmps71
  go_wp2_with(first|(refine wpList_append_own _ rfl _ _ 24 rfl w.heap.size 95 i0 (.agg #[.int .i64 0,.int .i64 0,.int .i64 0,.int .i64 0,.int .i64 0]) 5 40 Tryz.underlying24 HI.out HZ.out.1 HZ.out.2.1 HZ.out.2.2 rfl aB (.slice (some ⟨w.heap.size,0,none⟩) 0 0) 0 [] bT (World.ownsRow_made w #[] 0 (Nat.le_refl _) (Nat.zero_le _) rfl) a xs.length cap (flat xs) bT ?c1 ?c2 ?c3 ?c4 ?c5 ?c6 ?_)|fail)
  case c1=>exact dX HS.out
  case c2=>exact(hsl0.out.below ((Below.refl _ _).alloc (Nat.le_refl _) _)).news
  case c3=>exact iD HS.out
  case c4=>omega
  case c5=>omega
  case c6=>simp
  exact yC
theorem Uw:Val true 5 (.agg #[.int .i64 0,.int .i64 0,.int .i64 0,.int .i64 0,.int .i64 0]):=Qv (0,0,0,0,0)
def Zx(x:Value):Prop:=∃(fa fb fc fd fe:Int),x=.agg #[.int .i64 fa,.int .i64 fb,.int .i64 fc,.int .i64 fd,.int .i64 fe]
theorem aa0{l:List Ch}:∀x∈lU l,Zx x:=fun x hx=>by
 obtain⟨a,_,rfl⟩:=List.mem_map.1 hx
 exact⟨_,_,_,_,_,rfl⟩
theorem r9(v:Value)(xs:List Value)(fid:FuncId)(caps:Array Value)(p:Value→Bool)(w:World)(hsl:Sl w true 5 v xs)(hp:Pred Tryz.prog w none fid caps p xs):
  Calls Tryz.prog 69 #[v,.func (.func fid) #[] caps] w fun e w'=>e=.returned (.int .i64 (idx p xs))∧Below w.heap.size w w':=by
 obtain⟨hsz,a,cap,rfl,hl,hm,hform⟩:=hsl
 unfold maxLen at hm
 have hlen:xs.length≤9223372036854775807:=ah
 go_enter Tryz.func69,Tryz.ntmps69
 go_wp2_with fail
 go_loopw [8] (fun t wr=>∃i:Nat,i≤xs.length∧t=.int .i64 i∧Below w.heap.size w wr∧∀j y,j<i→xs[j]?=some y→p y=false) (fun t _=>xs.length-(intOf t).toNat)
 case atStart=>exact⟨0,Nat.zero_le _,rfl,Below.refl _ _,tF⟩
 case round=>
  obtain⟨i,hi,rfl,hbw,fG⟩:=hrel
  have HP:=Lib.hid fG
  clear fG
  by_cases hlt:i<xs.length
  ·obtain⟨x,hx⟩:∃x,xs[i]?=some x:=⟨_,List.getElem?_eq_getElem hlt⟩
   have hmem:x∈xs:=List.mem_of_getElem? hx
   have HV:=Lib.hid (hsz _ hmem)
   obtain⟨b,off,rfl,hb,hcell⟩:∃b off,a=some ⟨b,off,none⟩∧b<w.heap.size∧Cells wr b (off+i*5) x.cells.toList:=yx
   have HX:=Lib.hid hx
   have nu:=Lib.hid hcell
   clear hx hcell hform hsz
   have hcall:=hp.asks wr (ay hbw none) _ hmem
   have hbody:=hp.body
   unfold Body at hbody
   have HC:=Lib.hid hcall
   clear hcall hp
   cases hpx:p x
   ·have uG:=Lib.hid hpx
    rw[hpx] at HC
    clear hpx
    go_wp2_with(first|(refine aO rfl 95 _ rfl b (off+i*5) bT x lX HV.out nu.out ?_)|fail)
    exact Hr
   ·have uG:=Lib.hid hpx
    rw[hpx] at HC
    clear hpx
    go_wp2_with(first|(refine aO rfl 95 _ rfl b (off+i*5) bT x lX HV.out nu.out ?_)|fail)
    exact yA
  ·exact yB
theorem Ea(v:Value)(xs:List Value)(fid:FuncId)(caps:Array Value)(p:Value→Bool)(w:World)(base:Nat)(hform:∀x∈xs,Zx x)(ho:bB w base 95 true 5 v xs)(hp:Pred Tryz.prog w v.ownBlock fid caps p xs):
  Calls Tryz.prog 75 #[v,.func (.func fid) #[] caps] w fun e w'=>∃v',e=.returned v'∧Sl w' true 5 v' (xs.filter fun x=>!p x)∧v'.ownBlock=v.ownBlock∧w.grownBy w' v.ownBlock:=by
 have hI:=r9 v xs fid caps p w ho.sl ⟨hp.body,fun w' hg x hx=>hp.asks w' ⟨hg.os,hg.tape,hg.output,hg.size,fun b hb _=>hg.block b hb aI⟩ x hx⟩
 rcases jH p xs with⟨hi,hall⟩|⟨i0,x0,hi,hx0,Hw,fG⟩
 ·rw[hi] at hI
  have HF:=Lib.hid (show xs.filter (fun x=>!p x)=xs from List.filter_eq_self.2 (fun x hx=>EX))
  have HO:=Lib.hid ho
  clear hp ho hall
  go_enter Tryz.func75,Tryz.ntmps75
  exact Mi
 ·rw[hi] at hI
  have aby:i0<xs.length:=(List.getElem?_eq_some_iff.1 hx0).1
  obtain⟨g,cap,rfl,hlc,hcm,hbg,hgw,hfz,_⟩:=ho.form ah
  have hlen:xs.length≤9223372036854775807:=E5
  have Ip:(Value.slice (some ⟨g,0,none⟩) xs.length cap).ownBlock=some g:=rfl
  rw[Ip] at hp⊢
  obtain⟨i1,hi0,hq0,hq1,hq2⟩:=info_parts Jj
  have hzv:∀w,(zeroValue 95).run Tryz.prog w=.ok (.agg #[.int .i64 0,.int .i64 0,.int .i64 0,.int .i64 0,.int .i64 0]) w:=fun w=>by simp[zeroValue,typeInfo,hi0,hq0]
  have HZV:=Lib.hid hzv
  clear hi0 hq0 hq1 hq2 hzv hfz
  have R_:=Lib.hid ho
  have TW:=Lib.hid hp
  have hbody:=hp.body
  unfold Body at hbody
  have zS:xs.take i0=(xs.take (i0+1)).filter (fun x=>!p x):=Mj
  have BD:=Lib.hid zS
  have abt:IntKind.i64.wrap ((i0:Int)+1)=i0+1:=IntWalk.i64_in _ ah
  have hne1:((i0:Int)==-1)=false:=mF
  clear ho hp fG zS hx0 Hw
  go_enter Tryz.func75,Tryz.ntmps75
  go_wp2_with fail
  with_reducible refine hI.mono ?_
  rintro e w1 ⟨rfl,hb1⟩
  have hz1:=hb1.size
  go_wp2_with fail
  go_loopw [5,6] (fun u t W=>∃(i j:Nat) (zs:List Value),i<j∧j≤xs.length∧u=.int .i64 i∧t=.int .i64 j∧zs.length=xs.length∧bB W base 95 true 5 (.slice (some ⟨g,0,none⟩) xs.length cap) zs∧w.grownBy W (some g)∧
   zs.take i=(xs.take j).filter (fun x=>!p x)∧∀r,j≤r→zs[r]?=xs[r]?) (fun _ t _=>xs.length-(intOf t).toNat)
  case atStart=>exact⟨i0,i0+1,xs,ah,ah,rfl,bI,rfl,R_.out.kept hb1,ay hb1 _,BD.out,fun _ _=>rfl⟩
  case round=>
   obtain⟨i,j,zs,hij,hj,rfl,rfl,hzl,how,hgw,htk,hdr⟩:=hrel
   have HO:=Lib.hid how
   have Xd:=Lib.hid hzl
   have G8:=Lib.hid htk
   have HDR:=Lib.hid hdr
   have HG:=Lib.hid hgw
   clear how hzl htk hdr hgw
   by_cases hlt:j<xs.length
   ·obtain⟨x,hx⟩:∃x,xs[j]?=some x:=⟨_,List.getElem?_eq_getElem hlt⟩
    have hzx:zs[j]?=some x:=(HDR.out j (Nat.le_refl _)).trans hx
    obtain⟨b',off',CU,hblt,hcell⟩:=HO.out.sl.at hzx
    simp only[Option.some.injEq,Addr.mk.injEq,and_true] at CU
    obtain⟨rfl,rfl⟩:=CU
    rw[Nat.zero_add] at hcell
    have nu:=Lib.hid hcell
    have HV:=Lib.hid (HO.out.val x (List.mem_of_getElem? hzx))
    have HC:=Lib.hid (fun W h=>TW.out.asks W h x (List.mem_of_getElem? hx))
    obtain⟨fa,fb,fc,fd,fe,rfl⟩:=hform x (List.mem_of_getElem? hx)
    have HX:=Lib.hid hx
    have hwj:IntKind.i64.wrap ((j:Int)+1)=j+1:=IntWalk.i64_in _ ah
    have hwi:IntKind.i64.wrap ((i:Int)+1)=i+1:=IntWalk.i64_in _ ah
    clear hx hzx hcell
    cases hpx:p (.agg #[.int .i64 fa,.int .i64 fb,.int .i64 fc,.int .i64 fd,.int .i64 fe])
    ·have uG:=Lib.hid hpx
     rw[hpx] at HC
     clear hpx
     have tX:i<zs.length:=tH
     go_wp2_with(first|(refine aO rfl 95 _ rfl g (j*5) bT (.agg #[.int .i64 fa,.int .i64 fb,.int .i64 fc,.int .i64 fd,.int .i64 fe]) lX HV.out nu.out ?_)|((with_reducible refine(HC.out _ ?_).mono ?_);(focus exact aA HG.out (World.grownBy_alloc _ _ _));rintro e w2 ⟨rfl,hb2⟩;(have hz2:=hb2.size);(simp only[World.size_alloc] at hz2);(have hb2':Below wr.heap.size wr w2:=((Below.refl wr.heap.size wr).alloc (Nat.le_refl _) _).trans (hb2.mono cZ));(have lV:=Lib.hid (HO.out.kept hb2'));(have qU:aC w2 wr.heap.size #[.int .i64 fa,.int .i64 fb,.int .i64 fc,.int .i64 fd,.int .i64 fe] 95:=aC.below (aC.new wr _ _) hb2 cZ);(obtain⟨hcx,hfx,hlx,hnx,hmx⟩:=qU.rules);(clear qU))|(refine dw (base:=base) rfl _ _ rfl lX g xs.length cap lV.out i tX ?_ (.agg #[.int .i64 fa,.int .i64 fb,.int .i64 fc,.int .i64 fd,.int .i64 fe]) ?_ HV.out ?_;(focus(simp[Act.eval]));(focus(simp[Act.eval]));(intro w3 ho3 hg3;(have r_:=Lib.hid ho3);(have hg3':=aA HG.out (aA (ay hb2' (some g)) hg3));(have zO:=Lib.hid hg3');clear ho3 hg3 hg3'))|fail)
     go_roundw
     case rel=>
      refine⟨i+1,j+1,_,ah,ah,bI,bI,?_,r_.out,zO.out,?_,?_⟩
      ·exact Fp
      ·rw[eH HX.out,List.filter_append,←G8.out,eH (i:=i) (x:= .agg #[.int .i64 fa,.int .i64 fb,.int .i64 fc,.int .i64 fd,.int .i64 fe]) E9,List.take_set_of_le (Nat.le_refl _)]
       simp[uG.out]
      ·exact Mg
     case measure=>simp[intOf];omega
    ·have uG:=Lib.hid hpx
     rw[hpx] at HC
     clear hpx
     go_wp2_with(first|(refine aO rfl 95 _ rfl g (j*5) bT (.agg #[.int .i64 fa,.int .i64 fb,.int .i64 fc,.int .i64 fd,.int .i64 fe]) lX HV.out nu.out ?_)|((with_reducible refine(HC.out _ ?_).mono ?_);(focus exact aA HG.out (World.grownBy_alloc _ _ _));rintro e w2 ⟨rfl,hb2⟩;(have hz2:=hb2.size);(simp only[World.size_alloc] at hz2);(have hb2':Below wr.heap.size wr w2:=((Below.refl wr.heap.size wr).alloc (Nat.le_refl _) _).trans (hb2.mono cZ));(have lV:=Lib.hid (HO.out.kept hb2'));(have qU:aC w2 wr.heap.size #[.int .i64 fa,.int .i64 fb,.int .i64 fc,.int .i64 fd,.int .i64 fe] 95:=aC.below (aC.new wr _ _) hb2 cZ);(obtain⟨hcx,hfx,hlx,hnx,hmx⟩:=qU.rules);(clear qU))|fail)
     exact Sr
   ·have hjl:j=xs.length:=by omega
    subst hjl
    have tX:i<zs.length:=tH
    have hsub:zs.length-i=xs.length-i:=ER
    go_wp2_with(first|(refine kG (base:=base) rfl _ 24 rfl lX Tryz.underlying24 HZV.out Uw g xs.length cap (cap-i) HO.out i tX ?_ ?_;(focus(rw[hsub];simp[Act.eval]));(intro w3 ho3 hg3;(have r_:=Lib.hid ho3);(have zO:=Lib.hid (aA HG.out hg3));clear ho3 hg3))|fail)
    exact Mh
end Go.Proofs.YtgmodehldmahiaaGreatDoor.bf
namespace Go.Proofs.YtgmodehldmahiaaGreatDoor.bf
open Go Go.RowKit Go.Tm
theorem QV:Body Tryz.prog 76:=eZ Tryz.func76 aj aj
theorem Q_:Body Tryz.prog 54:=eZ Tryz.func54 aj aj
theorem VR:Body Tryz.prog 55:=eZ Tryz.func55 aj aj
def SE(a:Int):Value→Bool:=fun v=>match v with|.agg cs=>(match cs.toList with|[_,.int _ n,_,_,_]=>decide (n=a)|_=>false)|_=>false
def toQ(a:Int):Value→Bool:=fun v=>match v with|.agg cs=>(match cs.toList with|[_,_,.int _ n,_,_]=>decide (n=a)|_=>false)|_=>false
theorem Ng(a:Int)(x:Ch):SE a (uI x)=decide (x.2.1=a):=rfl
theorem Zg(a:Int)(x:Ch):toQ a (uI x)=decide (x.2.2.1=a):=rfl
theorem aaw(cs:List Ch)(a:Int):(lU cs).filter (SE a)=lU (rE cs a):=by
 unfold rE
 induction cs with
 |nil=>rfl
 |cons x r ih=>
  rw[lU,List.map_cons,List.filter_cons,List.filter_cons,Ng]
  rw[lU] at ih
  split
  ·rw[ih];rfl
  ·rw[ih]
theorem acw(cs:List Ch)(a:Int):(lU cs).filter (toQ a)=lU (sZ cs a):=by
 unfold sZ
 induction cs with
 |nil=>rfl
 |cons x r ih=>
  rw[lU,List.map_cons,List.filter_cons,List.filter_cons,Zg]
  rw[lU] at ih
  split
  ·rw[ih];rfl
  ·rw[ih]
theorem Vt(x:Ch)(a:Int)(B:Nat)(w:World)(hB:B<w.heap.size)(hc0:w.cell? ⟨B,0,none⟩=some (.int .i64 a)):
  Calls Tryz.prog 54 #[uI x,.pointer (some ⟨B,0,none⟩)] w fun e w'=>e=.returned (.bool (SE a (uI x)))∧Below w.heap.size w w':=by
 rw[Ng]
 have hne:¬B=w.heap.size:=ah
 obtain⟨p,n,u,r,s⟩:=x
 dsimp only
 by_cases h:n=a
 ·have hb:(n==a)=true:=by simpa using h
  go_enter Tryz.func54,Tryz.ntmps54
  exact oO
 ·have hb:(n==a)=false:=by simpa using h
  go_enter Tryz.func54,Tryz.ntmps54
  exact oO
theorem aaK(x:Ch)(a:Int)(B:Nat)(w:World)(hB:B<w.heap.size)(hc0:w.cell? ⟨B,0,none⟩=some (.int .i64 a)):
  Calls Tryz.prog 55 #[uI x,.pointer (some ⟨B,0,none⟩)] w fun e w'=>e=.returned (.bool (toQ a (uI x)))∧Below w.heap.size w w':=by
 rw[Zg]
 have hne:¬B=w.heap.size:=ah
 obtain⟨p,n,u,r,s⟩:=x
 dsimp only
 by_cases h:u=a
 ·have hb:(u==a)=true:=by simpa using h
  go_enter Tryz.func55,Tryz.ntmps55
  exact oO
 ·have hb:(u==a)=false:=by simpa using h
  go_enter Tryz.func55,Tryz.ntmps55
  exact oO
theorem U4(x:Ch)(h:FuncId)(B B1:Nat)(q:Value→Bool)(w:World)(hbody:Body Tryz.prog h)(hB:B<w.heap.size)(hc0:w.cell? ⟨B,0,none⟩=some (.func (.func h) #[] #[.pointer (some ⟨B1,0,none⟩)]))
  (hcall:∀w',Below w.heap.size w w'→Calls Tryz.prog h #[uI x,.pointer (some ⟨B1,0,none⟩)] w' fun e w''=>e=.returned (.bool (q (uI x)))∧Below w'.heap.size w' w''):
  Calls Tryz.prog 76 #[uI x,.pointer (some ⟨B,0,none⟩)] w fun e w'=>e=.returned (.bool (!q (uI x)))∧Below w.heap.size w w':=by
 obtain⟨y,hy⟩:∃y,y=q (uI x):=⟨_,rfl⟩
 rw[←hy] at hcall⊢
 have HC:=Lib.hid hcall
 unfold Body at hbody
 have hne:¬B=w.heap.size:=ah
 clear hcall hy
 obtain⟨p,n,u,r,s⟩:=x
 go_enter Tryz.func76,Tryz.ntmps76
 go_wp2_with fail
 with_reducible refine(HC.out _ aD).mono ?_
 rintro e w1 ⟨rfl,hb1⟩
 go_wp2_with fail
 go_ret
 exact⟨aI,XR⟩
theorem MS(pa:Option Addr)(np pc:Nat)(fr:Int)(wv cv:Value)(cs:List Ch)(h:FuncId)(B1:Nat)(n:Int)(q:Value→Bool)(w:World)(hv:Sl w true 5 cv (lU cs))(hby:cs.length*40≤140737488355328)(hbody:Body Tryz.prog h)
  (hB1:B1<w.heap.size)(hc1:w.cell? ⟨B1,0,none⟩=some (.int .i64 n))
  (hq:∀(x:Ch) (w':World),B1<w'.heap.size→w'.cell? ⟨B1,0,none⟩=some (.int .i64 n)→Calls Tryz.prog h #[uI x,.pointer (some ⟨B1,0,none⟩)] w' fun e w''=>e=.returned (.bool (q (uI x)))∧Below w'.heap.size w' w''):
  Calls Tryz.prog 53 #[.agg #[.slice pa np pc,.int .i64 fr,wv,cv],.func (.func h) #[] #[.pointer (some ⟨B1,0,none⟩)]] w fun e w'=>∃v',e=.returned v'∧Sl w' true 5 v' ((lU cs).filter q)∧(∀b,v'.ownBlock=some b→w.heap.size≤b)∧Below w.heap.size w w':=by
 have HV:=Lib.hid hv
 have HQ:=Lib.hid hq
 have HB:=Lib.hid hbody
 obtain⟨a,cap,rfl,hl⟩:=hv.shape
 rw[qN] at hl HV⊢
 clear hv hq hbody
 go_enter Tryz.func53,Tryz.ntmps53
 go_wp2_with fail
 with_reducible refine(zF _ (lU cs) _ (HV.out.below aD) (by rw[qN];exact hby)).mono ?_
 rintro e w2 ⟨v2,rfl,ho2,hb2⟩
 have hz2:=hb2.size
 simp only[World.size_alloc] at hz2
 have hbx:=aC.below (aC.new1 (w.alloc (.cells #[.slice pa np pc,.int .i64 fr,wv,.slice a cs.length cap] 26)) #[.func (.func h) #[] #[.pointer (some ⟨B1,0,none⟩)]] 109 (n:=w.heap.size+1) aI) hb2 cZ
 have hbw2:Below w.heap.size w w2:=aD
 have hge:∀b,v2.ownBlock=some b→w.heap.size+1+1≤b:=fun b hb=>by have:=ho2.fP b hb;simp only[World.size_alloc] at this;omega
 have HP:Hid (Pred Tryz.prog w2 v2.ownBlock 76 #[.pointer (some ⟨w.heap.size+1,0,none⟩)] (fun v=>!q v) (lU cs)):=Lib.hid ⟨QV,fun w' hw x hm=>by
  obtain⟨y,_,rfl⟩:=List.mem_map.1 hm
  have hB3:w.heap.size+1<w'.heap.size:=Nat.lt_of_lt_of_le hbx.lt hw.size
  have e1:w'.heap[w.heap.size+1]?=w2.heap[w.heap.size+1]?:=hw.block _ hbx.lt (fun h=>by have:=hge _ h.symm;omega)
  have e2:w'.heap[B1]?=w2.heap[B1]?:=hw.block _ ah (fun h=>by have:=hge _ h.symm;omega)
  refine U4 y h (w.heap.size+1) B1 q w' HB.out hB3 ((World.cell?_of_block (a:=⟨w.heap.size+1,0,none⟩) e1).trans (hbx.rules.1 0)) fun w'' hb=>?_
  have h1:w2.cell? ⟨B1,0,none⟩=some (.int .i64 n):=(hbw2.cell (p:=⟨B1,0,none⟩) hB1).trans hc1
  have h2:B1<w'.heap.size:=ah
  exact HQ.out y w'' (Nat.lt_of_lt_of_le h2 hb.size) ((hb.cell (p:=⟨B1,0,none⟩) h2).trans ((World.cell?_of_block (a:=⟨B1,0,none⟩) e2).trans h1))⟩
 have HD:=Lib.hid (Ea v2 (lU cs) 76 #[.pointer (some ⟨w.heap.size+1,0,none⟩)] (fun v=>!q v) w2 _ aa0 ho2 HP.out)
 have lV:=Lib.hid ho2
 clear ho2 hbx
 go_wp2_with fail
 with_reducible refine HD.out.mono ?_
 rintro e w4 ⟨v4,rfl,hs4,hv4,hg4⟩
 have hb4:Below w.heap.size w w4:=lV.out.below hg4 hbw2 cZ ah
 simp only[Bool.not_not] at hs4
 have G9:=Lib.hid hs4
 have Iz:=Lib.hid (show∀b,v4.ownBlock=some b→w.heap.size≤b from fun b hb=>by have:=hge b (hv4▸hb);omega)
 clear hs4 hg4 hv4
 go_wp2_with fail
 go_ret
 exact⟨_,rfl,G9.out,Iz.out,hb4⟩
theorem aax(pa:Option Addr)(np pc:Nat)(fr:Int)(wv cv:Value)(cs:List Ch)(part:Int)(w:World)(hv:Sl w true 5 cv (lU cs))(hby:cs.length*40≤140737488355328):
  Calls Tryz.prog 20 #[.agg #[.slice pa np pc,.int .i64 fr,wv,cv],.int .i64 part] w fun e w'=>∃v',e=.returned v'∧Sl w' true 5 v' (lU (rE cs part))∧Below w.heap.size w w':=by
 have HV:=Lib.hid hv
 have HE:=Lib.hid (aaw cs part)
 have HS:=Lib.hid (fun W h hB hc=>MS pa np pc fr wv cv cs 54 (w.heap.size+1) part (SE part) W h hby Q_ hB hc (fun x w'=>Vt x part (w.heap.size+1) w'))
 clear hv
 go_enter Tryz.func20,Tryz.ntmps20
 go_wp2_with fail
 with_reducible refine(HS.out _ (HV.out.below ?_) ?_ ?_).mono ?_
 focus exact bl
 focus(simp only[World.size_alloc];omega)
 focus exact(aC.new1 (w.alloc (.cells #[.slice pa np pc,.int .i64 fr,wv,cv] 26)) #[.int .i64 part] 3 (n:=w.heap.size+1) aI).rules.1 0
 rintro e w1 ⟨v1,rfl,hs1,_,hb1⟩
 rw[HE.out] at hs1
 have TV:=Lib.hid hs1
 clear hs1
 go_wp2_with fail
 go_ret
 exact⟨_,rfl,TV.out,XR⟩
theorem Tw(pa:Option Addr)(np pc:Nat)(fr:Int)(wv cv:Value)(cs:List Ch)(part:Int)(w:World)(hv:Sl w true 5 cv (lU cs))(hby:cs.length*40≤140737488355328):
  Calls Tryz.prog 21 #[.agg #[.slice pa np pc,.int .i64 fr,wv,cv],.int .i64 part] w fun e w'=>∃v',e=.returned v'∧Sl w' true 5 v' (lU (sZ cs part))∧Below w.heap.size w w':=by
 have HV:=Lib.hid hv
 have HE:=Lib.hid (acw cs part)
 have HS:=Lib.hid (fun W h hB hc=>MS pa np pc fr wv cv cs 55 (w.heap.size+1) part (toQ part) W h hby VR hB hc (fun x w'=>aaK x part (w.heap.size+1) w'))
 clear hv
 go_enter Tryz.func21,Tryz.ntmps21
 go_wp2_with fail
 with_reducible refine(HS.out _ (HV.out.below ?_) ?_ ?_).mono ?_
 focus exact bl
 focus(simp only[World.size_alloc];omega)
 focus exact(aC.new1 (w.alloc (.cells #[.slice pa np pc,.int .i64 fr,wv,cv] 26)) #[.int .i64 part] 3 (n:=w.heap.size+1) aI).rules.1 0
 rintro e w1 ⟨v1,rfl,hs1,_,hb1⟩
 rw[HE.out] at hs1
 have TV:=Lib.hid hs1
 clear hs1
 go_wp2_with fail
 go_ret
 exact⟨_,rfl,TV.out,XR⟩
end Go.Proofs.YtgmodehldmahiaaGreatDoor.bf
namespace Go.Proofs.YtgmodehldmahiaaGreatDoor.bf
open Go Go.RowKit Go.Tm
def GU:List Ch→List Ch→Int→Int→Int×Int×Bool
 |_,[],_,_=>(0,0,false)
 |pre,c::r,part,p=>if c.2.1=part then(if p=0 then(c.2.2.1,(((sZ pre c.2.2.1).length:Nat):Int),true) else GU (pre++[c]) r part (p-1)) else GU (pre++[c]) r part p
def toS(cs:List Ch)(part port:Int):Int×Int×Bool:=if port<0 then(0,0,false) else GU [] cs part port
theorem drop_at{α:Type}{l:List α}{i:Nat}{x:α}(h:l[i]?=some x):l.drop i=x::l.drop (i+1):=by
 obtain⟨hl,hx⟩:=List.getElem?_eq_some_iff.1 h
 rw[←hx];exact List.drop_eq_getElem_cons hl
theorem abW{cs:List Ch}{i:Nat}{x:Ch}{part p:Int}(hx:cs[i]?=some x)(h:x.2.1≠part):GU (cs.take i) (cs.drop i) part p=GU (cs.take (i+1)) (cs.drop (i+1)) part p:=by
 rw[drop_at hx,eH hx,GU,if_neg h]
theorem agF{cs:List Ch}{i:Nat}{x:Ch}{part p:Int}(hx:cs[i]?=some x)(h:x.2.1=part)(hp:p≠0):GU (cs.take i) (cs.drop i) part p=GU (cs.take (i+1)) (cs.drop (i+1)) part (p-1):=by
 rw[drop_at hx,eH hx,GU,if_pos h,if_neg hp]
theorem abX{cs:List Ch}{i:Nat}{x:Ch}{part:Int}(hx:cs[i]?=some x)(h:x.2.1=part):GU (cs.take i) (cs.drop i) part 0=(x.2.2.1,(((sZ (cs.take i) x.2.2.1).length:Nat):Int),true):=by
 rw[drop_at hx,GU,if_pos h,if_pos rfl]
theorem acy(cs:List Ch)(a:Int):(sZ cs a).length≤cs.length:=List.length_filter_le _ _
set_option maxRecDepth 100000 in
set_option maxHeartbeats 4000000 in
theorem agE(pa:Option Addr)(np pc:Nat)(fr:Int)(wv cv:Value)(cs:List Ch)(part port:Int)(w:World)(hv:Sl w true 5 cv (lU cs))(aeZ:(Lit.int .i64 port).wf=true)(hby:cs.length*40≤140737488355328):
  Calls Tryz.prog 79 #[.agg #[.slice pa np pc,.int .i64 fr,wv,cv],.int .i64 part,.int .i64 port] w fun e w'=>e=.returned (.tuple #[.agg #[.int .i64 (toS cs part port).1,.int .i64 (toS cs part port).2.1],.bool (toS cs part port).2.2])∧Below w.heap.size w w':=by
 have HV:=Lib.hid hv
 have hpr:-9223372036854775808≤port∧port≤9223372036854775807:=by simpa[Lit.wf,IntKind.min,IntKind.max,IntKind.bits,IntKind.signed] using aeZ
 obtain⟨a,cap,rfl,hl⟩:=hv.shape
 rw[qN] at hl HV⊢
 obtain⟨r1,r2,r3,hts⟩:∃r1 r2 r3,toS cs part port=(r1,r2,r3):=⟨_,_,_,rfl⟩
 rw[hts]
 dsimp only
 clear hv aeZ
 by_cases hneg:port<0
 ·have hd:decide (port<0)=true:=decide_eq_true hneg
  unfold toS at hts
  rw[if_pos hneg] at hts
  simp only[Prod.mk.injEq] at hts
  obtain⟨rfl,rfl,rfl⟩:=hts
  go_enter Tryz.func79,Tryz.ntmps79
  go_wp2_with fail
  exact bodyPost_ret (v:= .tuple #[.agg #[.int .i64 0,.int .i64 0],.bool false]) (by simp[results,Tryz.results79,go_sem]) rfl ⟨rfl,aD⟩
 have hd:decide (port<0)=false:=decide_eq_false hneg
 unfold toS at hts
 rw[if_neg hneg] at hts
 have HTS:=Lib.hid hts
 clear hts
 go_enter Tryz.func79,Tryz.ntmps79
 go_wp2_with fail
 have HA:=Lib.hid (show aC ((w.alloc (.cells #[.slice pa np pc,.int .i64 fr,wv,.slice a cs.length cap] 26)).alloc (.cells #[.int .i64 0,.int .i64 0] 168)) w.heap.size #[.slice pa np pc,.int .i64 fr,wv,.slice a cs.length cap] 26 from(aC.new _ _ _).alloc _)
 have HB:=Lib.hid (show aC ((w.alloc (.cells #[.slice pa np pc,.int .i64 fr,wv,.slice a cs.length cap] 26)).alloc (.cells #[.int .i64 0,.int .i64 0] 168)) (w.heap.size+1) #[.int .i64 0,.int .i64 0] 168 from aC.new1 _ _ _ aI)
 have bP:Below w.heap.size w ((w.alloc (.cells #[.slice pa np pc,.int .i64 fr,wv,.slice a cs.length cap] 26)).alloc (.cells #[.int .i64 0,.int .i64 0] 168)):=((Below.refl _ _).alloc (Nat.le_refl _) _).alloc aI _
 have hz1:((w.alloc (.cells #[.slice pa np pc,.int .i64 fr,wv,.slice a cs.length cap] 26)).alloc (.cells #[.int .i64 0,.int .i64 0] 168)).heap.size=w.heap.size+1+1:=aI
 generalize(w.alloc (.cells #[.slice pa np pc,.int .i64 fr,wv,.slice a cs.length cap] 26)).alloc (.cells #[.int .i64 0,.int .i64 0] 168)=w1 at*
 go_loopw [2,8,9,16] (fun q _ _ t W=>∃(i:Nat) (p:Int),i≤cs.length∧t=.int .i64 i∧q=.int .i64 p∧0≤p∧p≤port∧Below w1.heap.size w1 W∧Hid (GU (cs.take i) (cs.drop i) part p=(r1,r2,r3))) (fun _ _ _ t _=>cs.length-(intOf t).toNat)
 case atStart=>exact⟨0,port,Nat.zero_le _,rfl,rfl,ah,Int.le_refl _,Below.refl _ _,HTS⟩
 case round=>
  obtain⟨i,p,hi,rfl,rfl,hp0,hpp,hbw,HF⟩:=hrel
  have hwz:=hbw.size
  ((have b2:=HA.out.below hbw HA.out.lt);(obtain⟨hc2,hf2,hl2,hn2,hm2⟩:=b2.rules);(have K2:=Lib.hid b2);(clear b2))
  by_cases hlt:i<cs.length
  ·obtain⟨x,hx⟩:∃x,cs[i]?=some x:=⟨_,List.getElem?_eq_getElem hlt⟩
   have HV2:=Lib.hid (HV.out.below (bP.trans (hbw.mono ah)))
   obtain⟨r,hr,hs⟩:=Sl.MX (t:=24) lX Tryz.underlying24 HV2.out (i:Int) i rfl (by rw[qN];omega)
   have hst:(lU cs).take i=lU (cs.take i):=by rw[lU,lU,List.map_take]
   rw[hst] at hs
   obtain⟨ar,kr,hrv,_⟩:=hs.shape
   generalize(lU (cs.take i)).length=nr at hrv
   subst hrv
   have HS:=Lib.hid hs
   obtain⟨b,off,rfl,hb,e0,e1,e2,e3,e4⟩:=Sl.ch HV2.out hx
   have hwr:IntKind.i64.wrap ((i:Int)+1)=i+1:=IntWalk.i64_in _ ah
   have hba:Below w1.heap.size w1 (wr.alloc (.cells #[.int .i64 x.1,.int .i64 x.2.1,.int .i64 x.2.2.1,.int .i64 x.2.2.2.1,.int .i64 x.2.2.2.2] 95)):=hbw.alloc hwz _
   clear hs hst
   by_cases hq:x.2.1=part
   ·have zK:(x.2.1 !=part)=false:=by simpa using hq
    by_cases hpz:p=0
    ·subst hpz
     have hf:=HF.out
     rw[abX hx hq] at hf
     simp only[Prod.mk.injEq] at hf
     obtain⟨rfl,hr2,rfl⟩:=hf
     have HR2:=Lib.hid hr2
     have HI:=Lib.hid (fun W h=>Tw none 0 0 0 (.slice none 0 0) (.slice ar nr kr) (cs.take i) x.2.2.1 W h wK)
     have hil:=acy (cs.take i) x.2.2.1
     rw[List.length_take] at hil
     clear hx hq hr2
     go_wp2_with fail
     have KX:=Lib.hid (aC.new wr #[.int .i64 x.1,.int .i64 x.2.1,.int .i64 x.2.2.1,.int .i64 x.2.2.2.1,.int .i64 x.2.2.2.2] 95)
     have KA:=Lib.hid (K2.out.alloc (.cells #[.int .i64 x.1,.int .i64 x.2.1,.int .i64 x.2.2.1,.int .i64 x.2.2.2.1,.int .i64 x.2.2.2.2] 95))
     have KB:=Lib.hid ((HB.out.below hbw HB.out.lt).alloc (.cells #[.int .i64 x.1,.int .i64 x.2.1,.int .i64 x.2.2.1,.int .i64 x.2.2.2.1,.int .i64 x.2.2.2.2] 95))
     have HS3:=Lib.hid (HS.out.alloc (.cells #[.int .i64 x.1,.int .i64 x.2.1,.int .i64 x.2.2.1,.int .i64 x.2.2.2.1,.int .i64 x.2.2.2.2] 95))
     have hz3:(wr.alloc (.cells #[.int .i64 x.1,.int .i64 x.2.1,.int .i64 x.2.2.1,.int .i64 x.2.2.2.1,.int .i64 x.2.2.2.2] 95)).heap.size=wr.heap.size+1:=aI
     generalize wr.alloc (.cells #[.int .i64 x.1,.int .i64 x.2.1,.int .i64 x.2.2.1,.int .i64 x.2.2.2.1,.int .i64 x.2.2.2.2] 95)=w3 at*
     have HZ3:=Lib.hid hz3
     clear hz3 HS hc2 hf2 hl2 hn2 hm2 e0 e1 e2 e3 e4
     refine wp_region_held_drew (S:=fun W=>W.cell? ⟨wr.heap.size,2,none⟩=some (.int .i64 x.2.2.1)∧W.cell? ⟨w.heap.size,3,none⟩=some (.slice (some ⟨b,off,none⟩) cs.length cap)) aj ⟨KX.out.drew.rules.1 2,KA.out.drew.rules.1 3⟩ (fun hHeld=>?_)
     ((refine wpAnyH_take (i:=0) (oi:=⟨some 30,_,_,_,_,_⟩) (v:=?_) rfl aj aj aj (fun _ _ _ h=>h) (Or.inl ⟨aF,?_⟩) aZ ?_);rotate_left;(focus((intro w hSw);(try dsimp only at hSw);go_simp;(try with_reducible rfl)));(try simp only[pt]))
     ((refine wpAnyH_take (i:=1) (oi:=⟨some 31,_,_,_,_,_⟩) (v:=?_) rfl aj aj aj (fun _ _ _ h=>h) (Or.inl ⟨aF,?_⟩) aZ ?_);rotate_left;(focus((intro w hSw);(try dsimp only at hSw);go_simp;(try with_reducible rfl)));(try simp only[pt]))
     ((refine wpAnyH_take (i:=2) (oi:=⟨some 32,_,_,_,_,_⟩) (v:=?_) rfl aj aj aj (fun _ _ _ h=>h) (Or.inl ⟨aF,?_⟩) aZ ?_);rotate_left;(focus((intro w hSw);(try dsimp only at hSw);go_simp;(try with_reducible rfl)));(try simp only[pt]))
     ((refine wpAnyH_take (i:=3) (oi:=⟨some 33,_,_,_,_,_⟩) (v:=?_) rfl aj aj aj (fun _ _ _ h=>h) (Or.inl ⟨aF,?_⟩) aZ ?_);rotate_left;(focus((intro w hSw);(try dsimp only at hSw);go_simp;(try with_reducible rfl)));(try simp only[pt]))
     ((refine wpAnyH_take (i:=4) (oi:=⟨some 34,_,_,_,_,_⟩) (v:=?_) rfl aj aj aj (fun _ _ _ h=>h) (Or.inl ⟨aF,?_⟩) aZ ?_);rotate_left;(focus((intro w hSw);(try dsimp only at hSw);go_simp;(try with_reducible rfl)));(try simp only[pt]))
     ((refine wpAnyH_take (i:=5) (oi:=⟨some 35,_,_,_,_,_⟩) (v:=?_) rfl aj aj aj (fun _ _ _ h=>h) (Or.inl ⟨aF,?_⟩) aZ ?_);rotate_left;(focus((intro w hSw);(try dsimp only at hSw);go_simp;(try with_reducible rfl)));(try simp only[pt]))
     ((refine wpAnyH_take (i:=6) (oi:=⟨some 36,_,_,_,_,_⟩) (v:=?_) rfl aj aj aj (fun _ _ _ h=>h) (Or.inl ⟨aF,?_⟩) aZ ?_);rotate_left;(focus((intro w hSw);(try dsimp only at hSw);go_simp;(try with_reducible rfl)));(try simp only[pt]))
     ((refine wpAnyH_take (i:=7) (oi:=⟨some 37,_,_,_,_,_⟩) (v:=?_) rfl aj aj aj (fun _ _ _ h=>h) (Or.inl ⟨aF,?_⟩) aZ ?_);rotate_left;(focus((intro w hSw);(try dsimp only at hSw);go_simp;(try with_reducible rfl)));(try simp only[pt]))
     ((refine wpAnyH_take (i:=8) (oi:=⟨some 38,_,_,_,_,_⟩) (v:=?_) rfl aj aj aj (fun _ _ _ h=>h) (Or.inl ⟨aF,?_⟩) aZ ?_);rotate_left;(focus((intro w hSw);(try dsimp only at hSw);go_simp;(try with_reducible rfl)));(try simp only[pt]))
     ((refine wpAnyH_ready (rs:=[9]) aj aI ?_);(refine AllReadyH.cons (o:=⟨some 39,_,_,_,_,_⟩) rfl (fun K hK=>?_) AllReadyH.nil);go_simp;(with_reducible refine(HI.out _ (HS3.out.below (Below.refl _ _).drew)).mono ?_);(rintro en w5 ⟨v5,rfl,hs5,hb5⟩);((have GY:=hb5.size);(try simp only[bE,dh,World.size_alloc] at GY);(have O9:Below w3.heap.size w3 w5:=aD);(obtain⟨a5,k5,hv5,_⟩:=hs5.shape);(rw[qN] at hv5);(subst hv5);(clear hs5));(try go_wp2_with fail);(refine hK.out _ _ (⟨(KX.out.below O9 KX.out.lt).rules.1 2,(KA.out.below O9 KA.out.lt).rules.1 3⟩) (fun hHeld=>?_));(clear hK K);(try simp only[pt]))
     have G6:=Lib.hid (KB.out.below O9 KB.out.lt)
     have OA:=Lib.hid (KX.out.below O9 KX.out.lt)
     have KA5:=Lib.hid (KA.out.below O9 KA.out.lt)
     obtain⟨hc5,hf5,hl5,hn5,hm5⟩:=G6.out.rules
     have hne:wr.heap.size≠w.heap.size+1:=ah
     have HSS:=Lib.hid (show((w5.setCell ⟨w.heap.size+1,0,none⟩ (.int .i64 x.2.2.1)).setCell ⟨w.heap.size+1,1,none⟩ (.int .i64 ((sZ (cs.take i) x.2.2.1).length:Nat))).cell? ⟨wr.heap.size,2,none⟩=some (.int .i64 x.2.2.1)∧((w5.setCell ⟨w.heap.size+1,0,none⟩ (.int .i64 x.2.2.1)).setCell ⟨w.heap.size+1,1,none⟩ (.int .i64 ((sZ (cs.take i) x.2.2.1).length:Nat))).cell? ⟨w.heap.size,3,none⟩=some (.slice (some ⟨b,off,none⟩) cs.length cap) from
      ⟨(World.cell?_setCell_far _ _ _ _ hne.symm).trans ((World.cell?_setCell_far _ _ _ _ hne.symm).trans (OA.out.rules.1 2)),(World.cell?_setCell_far _ _ _ _ aI).trans ((World.cell?_setCell_far _ _ _ _ aI).trans (KA5.out.rules.1 3))⟩)
     have jC:Below w.heap.size w w5:=(bP.trans (hba.mono ah)).trans (O9.mono (by have:=hba.size;omega))
     clear hb5 O9 hne
     generalize(sZ (cs.take i) x.2.2.1).length=n5 at*
     ((refine wpAnyH_take (i:=10) (oi:=⟨some 40,_,_,_,_,_⟩) (v:=?_) rfl aj aj aj (fun _ _ _ h=>h) (Or.inl ⟨aF,?_⟩) aZ ?_);rotate_left;(focus((intro w hSw);(try dsimp only at hSw);go_simp;(try with_reducible rfl)));(try simp only[pt]))
     ((refine wpAnyH_take (i:=11) (oi:=⟨some 41,_,_,_,_,_⟩) (v:=?_) rfl aj aj aj (fun _ _ _ h=>h) (Or.inl ⟨aF,?_⟩) aZ ?_);rotate_left;(focus((intro w hSw);(try dsimp only at hSw);go_simp;(try with_reducible rfl)));(try simp only[pt]))
     refine wpAnyH_ready (rs:=[12]) aj aI ?_
     refine AllReadyH.cons (o:=⟨none,_,_,_,_,_⟩) rfl (fun K hK=>?_) AllReadyH.nil
     go_simp
     refine hK.out _ _ HSS.out (fun hHeld=>?_)
     clear hK K
     (try simp only[pt])
     refine wpAnyH_ready (rs:=[13]) aj aI ?_
     refine AllReadyH.cons (o:=⟨some 7,_,_,_,_,_⟩) rfl (fun K hK=>?_) AllReadyH.nil
     go_simp
     refine hK.out _ _ HSS.out (fun hHeld=>?_)
     clear hK K
     (try simp only[pt])
     refine wpAnyH_done aj ?_ _
     go_wp2_with fail
     exact bodyPost_ret (v:= .tuple #[.agg #[.int .i64 x.2.2.1,.int .i64 (n5:Nat)],.bool true]) (by simp[results,Tryz.results79,go_sem,hc5]) rfl ⟨by rw[←HR2.out],aD⟩
    ·have HF2:=Lib.hid ((agF hx hq hpz).symm.trans HF.out)
     have hpb:(p==0)=false:=by simpa using hpz
     have hwp:IntKind.i64.wrap (p-1)=p-1:=IntWalk.i64_in _ ah
     clear hx hq
     go_wp2_with fail
     go_roundw
     case rel=>exact⟨i+1,p-1,ah,bI,rfl,ah,ah,hba,HF2⟩
     case measure=>simp[intOf];omega
   ·have HF2:=Lib.hid ((abW hx hq).symm.trans HF.out)
    have zK:(x.2.1 !=part)=true:=BK
    clear hx hq
    go_wp2_with fail
    go_roundw
    case rel=>exact⟨i+1,p,ah,bI,rfl,ah,ah,hba,HF2⟩
    case measure=>simp[intOf];omega
  ·obtain rfl:i=cs.length:=by omega
   have hf:=HF.out
   rw[List.drop_length,GU] at hf
   simp only[Prod.mk.injEq] at hf
   obtain⟨rfl,rfl,rfl⟩:=hf
   ((have b3:=HB.out.below hbw HB.out.lt);(obtain⟨hc3,hf3,hl3,sU,ng⟩:=b3.rules);(have K3:=Lib.hid b3);(clear b3))
   have Hy:Below w.heap.size w wr:=bP.trans (hbw.mono ah)
   go_wp2_with fail
   exact bodyPost_ret (v:= .tuple #[.agg #[.int .i64 0,.int .i64 0],.bool false]) (by simp[results,Tryz.results79,go_sem,hc3]) rfl ⟨rfl,aD⟩
end Go.Proofs.YtgmodehldmahiaaGreatDoor.bf
