/- Part 12 of 50 of the proof of topWindows_holds. Conditions: see each. -/
import Derived.Test.YtgmodehldmahiaaGreatDoorW01
import Derived.Test.YtgmodehldmahiaaGreatDoorW11
set_option linter.unusedVariables false
set_option linter.unusedSimpArgs false
set_option maxRecDepth 8192
set_option maxHeartbeats 40000000
namespace Go.Proofs.YtgmodehldmahiaaGreatDoor.Plan
open Go Go.RowKit Go.Tm
attribute [local go_sem] Oper.semAt_some
open Classical in
noncomputable def nE(p:iE)(sched:Int):List Wn:=if dW p∧0≤sched∧sched<p.wins.length then(p.wins[sched.toNat]?).getD [] else[]
theorem xE{p:iE}{sched:Int}{l:List Wn}(hp:dW p)(h0:0≤sched)(h1:sched<p.wins.length)(hl:p.wins[sched.toNat]?=some l):nE p sched=l:=by
 unfold nE;rw[if_pos ⟨hp,h0,h1⟩,hl];rfl
theorem qc{p:iE}{sched:Int}(h:¬(dW p∧0≤sched∧sched<p.wins.length)):nE p sched=[]:=by unfold nE;rw[if_neg h]
def WOk(x:Wn):Prop:=0≤x.1∧x.1<4∧0≤x.2.1∧2<x.2.2∧x.2.1+x.2.2≤4096
abbrev Wa:={x:Wn//WOk x}
theorem Va{n:Nat}{frame:Int}:∀{l:List Wn} {b:Int},vK n frame b l→∀x∈l,mq n frame x:=by
 intro l
 induction l with
 |nil=>intro b _ x hx;cases hx
 |cons y r ih=>
  intro b h x hx
  rcases List.mem_cons.1 hx with rfl|hx
  ·exact h.1
  ·exact ih h.2.2 x hx
theorem I5{p:iE}{sched:Int}:∀x∈nE p sched,dW p∧mq p.parts.length p.frame x:=by
 intro x hx
 by_cases h:dW p∧0≤sched∧sched<p.wins.length
 ·have hl:=List.getElem?_eq_getElem (l:=p.wins) (show sched.toNat<p.wins.length by omega)
  rw[xE h.1 h.2.1 h.2.2 hl] at hx
  exact⟨h.1,Va (h.1.rows _ (List.getElem_mem _)) x hx⟩
 ·rw[qc h] at hx;cases hx
theorem vg{p:iE}{sched:Int}:∀x∈nE p sched,WOk x:=by
 intro x hx
 obtain⟨hp,h⟩:=I5 x hx
 have:=hp.uy
 have:=hp.ze
 unfold mq at h
 unfold WOk
 omega
theorem MI{q:Wn→Prop}:∀{l:List Wn},(∀x∈l,q x)→∃la:List {x:Wn//q x},la.map (·.1)=l:=by
 intro l
 induction l with
 |nil=>intro _;exact⟨[],rfl⟩
 |cons x r ih=>
  intro h
  obtain⟨la,he⟩:=ih fun y hy=>h y (List.mem_cons_of_mem _ hy)
  exact⟨⟨x,h x aI⟩::la,by simp[he]⟩
theorem MJ(pv wv cv:Value)(p:iE)(sched:Int)(w:World):Calls Tryz.prog 60 #[wC pv wv cv p,.int .i64 sched] w fun e w'=>
  e=.returned (.func (.func 77) #[] #[.pointer (some ⟨w.heap.size,0,none⟩),.pointer (some ⟨w.heap.size+1,0,none⟩)])∧
   w'=(w.alloc (.cells #[pv,.int .i64 p.frame,wv,cv] 26)).alloc (.cells #[.int .i64 sched] 3):=by
 go_enter Tryz.func60,Tryz.ntmps60
 go_wp2_with fail
 go_ret
 exact⟨aI,rfl⟩
set_option maxRecDepth 100000 in
set_option maxHeartbeats 8000000 in
theorem F9(n B1 B2:Nat)(pv wv cv:Value)(p:iE)(sched:Int)(za:List Wa)(w:World)(hn:1≤n)(hz:za.map (·.1)=nE p sched)(hp:gq w pv wv cv p)
  (h1:aC w B1 #[pv,.int .i64 p.frame,wv,cv] 26)(h2:aC w B2 #[.int .i64 sched] 3):
  SeqStopsK Fence.wide n Tryz.prog 77 #[.pointer (some ⟨B1,0,none⟩),.pointer (some ⟨B2,0,none⟩)] (fun x:Wa=>#[Lv x.1]) (Below w.heap.size) (fun ys=>ys=za) (fun pre=>pre<+:za) za.length w:=by
 intro l' J Jx W hW hJ hJx hY h0
 have HP:=Lib.hid hp
 have HB1:=Lib.hid h1
 have HB2:=Lib.hid h2
 have HJ:=Lib.hid hJ
 have HY:=Lib.hid hY
 have HZ:=Lib.hid hz
 obtain⟨a1,k1,a2,k2,a3,k3,rfl,rfl,rfl,hl1,hl2,hl3⟩:=hp.shape
 have abE:=aC.below HB1.out hW h1.lt
 have Um:=aC.below HB2.out hW h2.lt
 have HCK:=Lib.hid (Cu _ _ _ p W (HP.out.below hW))
 obtain⟨c1,f1,l1,n1,m1⟩:=abE.rules
 clear h1 h2 hp hJ hY hz
 ((refine callsIn_of_wp Tryz.func77 rfl trivial ?_ rfl);(simp only[Tryz.ntmps77,List.size_toArray,List.length_cons,List.length_nil,Nat.reduceAdd,Nat.reduceSub,Array.replicate_succ,Array.replicate_zero,List.push_toArray,List.append_toArray,List.nil_append,List.cons_append]))
 gi_wp2
 refine⟨trivial,callsIn_wide.2 (HCK.out.mono ?_)⟩
 rintro e w1 ⟨⟨k,rfl,hk⟩,hb1⟩
 have hx1:Below w.heap.size w w1:=hW.trans (hb1.mono hW.size)
 have HJ1:=Lib.hid (HJ.out _ W w1 none h0 (ay hb1 none) (fun r e=>by cases e))
 have agq:=Lib.hid (abE.below hb1 abE.lt)
 have L_:=Lib.hid (Um.below hb1 Um.lt)
 clear h0 c1 f1 l1 n1 m1 abE Um
 by_cases hpk:dW p
 case neg=>
  have hk0:(k !=0)=true:=by simp;exact fun e=>hpk (hk.1 e)
  have hne:za=[]:=by have:=HZ.out;rw[qc (fun h=>hpk h.1)] at this;simpa using this
  clear hk
  gi_wp2
  refine bodyPost_ret (results_none rfl _ _ _) rfl ?_
  exact⟨⟨_,rfl⟩,.inl ⟨_,hne.symm,HJ1.out⟩⟩
 obtain rfl:k=0:=hk.2 hpk
 clear hk
 obtain⟨c1,f1,l1,n1,m1⟩:=agq.out.rules
 obtain⟨c2,f2,l2,n2,m2⟩:=L_.out.rules
 by_cases hs0:sched<0
 case pos=>
  have ajP:decide (sched<0)=true:=by simpa using hs0
  exact aen
 have ajP:decide (sched<0)=false:=by simpa using hs0
 by_cases hs1:(p.wins.length:Int)≤sched
 case pos=>
  have ajM:decide ((p.wins.length:Int)≤sched)=true:=by simpa using hs1
  exact aen
 have ajM:decide ((p.wins.length:Int)≤sched)=false:=by simpa using hs1
 obtain⟨s,rfl⟩:∃s:Nat,sched=s:=⟨sched.toNat,ah⟩
 have alb:decide (p.wins.length≤s)=false:=aR
 obtain⟨l,hl⟩:∃l,p.wins[s]?=some l:=⟨_,List.getElem?_eq_getElem ah⟩
 have hzl:za.map (·.1)=l:=by rw[HZ.out];exact xE hpk ah ah ET
 have ai3:za.length=l.length:=by rw[←hzl];simp
 obtain⟨b,off,a5,c5,rfl,hb,hcell0,hll,hsl⟩:=oD.at HP.out.wins hl
 have hcell:=(hx1.cell (p:=⟨b,off+s,none⟩) hb).trans hcell0
 have bP:b<w1.heap.size:=Nat.lt_of_lt_of_le hb hx1.size
 have HSL:=Lib.hid hsl
 have Xd:=Lib.hid hzl
 clear hl hsl hzl hcell0
 gi_wp2
 clear c1 f1 l1 n1 m1 c2 f2 l2 n2 m2 hcell
 gi_loopw [26] (fun t wr=>∃k:Nat,k≤l.length∧t=.int .i64 k∧Below w.heap.size w wr∧J (za.take k) wr) (fun t _=>l.length-(intOf t).toNat)
 case atStart=>exact⟨0,Nat.zero_le _,rfl,hx1,HJ1.out⟩
 case round=>
  obtain⟨k,hk,rfl,hbw,hJs⟩:=hrel
  have Xf:=Lib.hid hJs
  have hws:=hbw.size
  clear hJs
  by_cases hlt:k<l.length
  ·obtain⟨x,hx⟩:∃x,za[k]?=some x:=⟨_,List.getElem?_eq_getElem ah⟩
   have hxl:l[k]?=some x.1:=by rw[←Xd.out];simp[hx]
   obtain⟨b2,off2,rfl,hb2,q0,q1,q2⟩:=Sl.wn (HSL.out.below hbw) hxl
   have HST:=Lib.hid (eH hx)
   have uG:=Lib.hid (show za.take (k+1)<+:za from List.take_prefix _ _)
   have hwr:IntKind.i64.wrap ((k:Int)+1)=k+1:=IntWalk.i64_in _ ah
   have htl:(za.take k).length<za.length:=wK
   have hbz:Below wr.heap.size wr (wr.alloc (.cells #[.int .i64 x.1.1,.int .i64 x.1.2.1,.int .i64 x.1.2.2] 76)):=(Below.refl _ _).alloc (Nat.le_refl _) _
   have HJ2:=Lib.hid (HJ.out _ wr _ none Xf.out (ay hbz none) (fun r e=>by cases e))
   obtain⟨fn,tmps,assign,body,hy,hR⟩:=HY.out _ x _ HJ2.out htl
   have HR:=Lib.hid hR
   clear hx hxl hR
   gi_wp2
   refine HR.out.mono ?_
   rintro e w3 (⟨rfl,hJ3,hk3⟩|⟨rfl,hJx3⟩)
   ·gi_wp2
    go_roundw
    case rel=>exact⟨k+1,ah,bI,(hbw.alloc hws _).trans hk3,by rw[HST.out];exact hJ3⟩
    case measure=>simp[intOf];omega
   ·gi_wp2
    refine bodyPost_ret (results_none rfl _ _ _) rfl ?_
    exact⟨⟨_,rfl⟩,.inr ⟨_,by rw[←HST.out];exact uG.out,hJx3⟩⟩
  ·obtain rfl:k=l.length:=by omega
   gi_wp2
   go_end0
   exact⟨⟨_,rfl⟩,.inl ⟨_,rfl,by rw[←ai3,List.take_length] at Xf;exact Xf.out⟩⟩
end Go.Proofs.YtgmodehldmahiaaGreatDoor.Plan
namespace Go.Proofs.YtgmodehldmahiaaGreatDoor.Plan
open Go Go.RowKit Go.Tm
attribute [local go_sem] Oper.semAt_some
def Xa(f:Int):Int:=if f<1 then 1 else f
theorem acA(f:Int):1≤Xa f:=by unfold Xa;split<;>omega
def OO(f t:Int):Int:=t%Xa f
theorem Jo{f t:Int}(h:0≤t)(hf:f≤9223372036854775807):0≤OO f t∧OO f t<9223372036854775807:=by
 have h1:=acA f
 have h2:Xa f≤9223372036854775807:=by unfold Xa;split<;>omega
 have:=Int.emod_nonneg t (show Xa f≠0 by omega)
 have:=Int.emod_lt_of_pos t (show 0<Xa f by omega)
 unfold OO
 omega
theorem pE{x:Int}(h0:0≤x)(h1:x≤18446744073709551615):IntKind.u64.wrap x=x:=by rw[IntKind.wrap_u64];omega
theorem xL(pv wv cv:Value)(p:iE)(t:Int)(w:World)(ht:0≤t)(hf:p.frame≤9223372036854775807):
  Calls Tryz.prog 59 #[wC pv wv cv p,.int .u64 t] w fun e w'=>e=.returned (.int .i64 (OO p.frame t))∧Below w.heap.size w w':=by
 have hc:=Jo ht hf
 unfold OO Xa at*
 by_cases h:p.frame<1
 ·rw[if_pos h] at hc⊢
  have hq:t%1=0:=Int.emod_one t
  go_enter Tryz.func59,Tryz.ntmps59
  exact IE
 ·rw[if_neg h] at hc⊢
  have hw1:IntKind.u64.wrap p.frame=p.frame:=pE ah ah
  have hw2:p.frame%18446744073709551616=p.frame:=ah
  have hz:(p.frame==0)=false:=aR
  have hw3:IntKind.i64.wrap (t%p.frame)=t%p.frame:=IntWalk.i64_in _ ah
  have hm:t.tmod p.frame=t%p.frame:=Int.tmod_eq_emod_of_nonneg ht
  go_enter Tryz.func59,Tryz.ntmps59
  exact IE
theorem Dz{B:Nat}{W W':World}(h:Below W.heap.size W W'):KeepsFrom B W W':=KeepsFrom.of_grownBy (ay h none) aI
theorem fI{β:Type}(B:Nat)(t:TypeId)(f:β→Array Value):Own (fun s W=>aC W B (f s) t):=fun s X Y row hs hg hrow=>
 hs.grown hg (fun e'=>XW)
end Go.Proofs.YtgmodehldmahiaaGreatDoor.Plan
namespace Go.Proofs.YtgmodehldmahiaaGreatDoor.Plan
open Go Go.RowKit Go.Tm
def vZ(m:Int)(x:Wn):Bool:=decide (x.2.1≤m∧m<x.2.1+x.2.2)
def zT(m:Int)(x:Wn):Int:=if m-x.2.1<2 then 1 else 2
def LB(l:List Wn)(m:Int):Int×Int:=match l.find? (vZ m) with|none=>(-1,0)|some x=>(x.1,zT m x)
noncomputable def qF(p:iE)(sched t:Int):Int×Int:=LB (nE p sched) (OO p.frame t)
end Go.Proofs.YtgmodehldmahiaaGreatDoor.Plan
namespace Go.Proofs.YtgmodehldmahiaaGreatDoor.Plan
open Go Go.RowKit Go.Tm
attribute [local go_sem] Oper.semAt_some
def nO(q:Wn→Bool)(pre:List Wa):Prop:=∀x∈pre,q x.1=false
theorem nO.snoc{q:Wn→Bool}{pre:List Wa}{x:Wa}(h:nO q pre)(hx:q x.1=false):nO q (pre++[x]):=by
 intro y hy
 rcases List.mem_append.1 hy with hy|hy
 ·exact h y hy
 ·obtain rfl:y=x:=by simpa using hy
  exact hx
theorem nO.none{q:Wn→Bool}{za:List Wa}(h:nO q za):(za.map (·.1)).find? q=none:=by
 rw[List.find?_eq_none]
 intro y hy
 obtain⟨x,hx,rfl⟩:=List.mem_map.1 hy
 rw[h x hx];simp
theorem nO.some{q:Wn→Bool}{ys:List Wa}{x:Wa}{za:List Wa}(h:nO q ys)(hx:q x.1=true)(hp:ys++[x]<+:za):(za.map (·.1)).find? q=some x.1:=by
 obtain⟨r,rfl⟩:=hp
 rw[List.append_assoc,List.map_append,List.find?_append,h.none]
 simp[hx]
def Mx(m:Int)(B1 B2:Nat)(w:World)(pre:List Wa)(W:World):Prop:=
 ∃(x:Wa) (ys:List Wa),pre=ys++[x]∧nO (vZ m) ys∧vZ m x.1=true∧(aC W B1 #[.int .i64 x.1.1] 3∧aC W B2 #[.int .i64 (zT m x.1)] 3)∧Below w.heap.size w W
theorem Cm{m:Int}{B1 B2:Nat}{w:World}{B:Nat}(hB:w.heap.size≤B):OwnFrom B (Mx m B1 B2 w):=by
 intro pre X Y row hs hg hr
 obtain⟨x,ys,h1,h2,h3,⟨h4,h5⟩,h6⟩:=hs
 exact⟨x,ys,h1,h2,h3,⟨Own.from (fI (β:=Unit) _ 3 (fun _=>#[.int .i64 x.1.1])) _ () X Y row h4 hg hr,Own.from (fI (β:=Unit) _ 3 (fun _=>#[.int .i64 (zT m x.1)])) _ () X Y row h5 hg hr⟩,ownFrom_below (β:=Unit) (Nat.le_refl _) hB () X Y row h6 hg hr⟩
set_option maxRecDepth 100000 in
set_option maxHeartbeats 8000000 in
theorem Ki(pv wv cv:Value)(p:iE)(sched t:Int)(w:World)(hp:gq w pv wv cv p)(ht:0≤t)(hf:p.frame≤9223372036854775807):
  Calls Tryz.prog 33 #[wC pv wv cv p,.int .i64 sched,.int .u64 t] w fun e w'=>e=.returned (.tuple #[.int .i64 (qF p sched t).1,.int .i64 (qF p sched t).2])∧Below w.heap.size w w':=by
 have HP:=Lib.hid hp
 have Sb:=Lib.hid (fun W=>xL pv wv cv p t W ht hf)
 have hcr:=Jo ht hf
 obtain⟨za,hz⟩:=MI (l:=nE p sched) vg
 have HZ:=Lib.hid hz
 unfold qF
 rw[←hz]
 obtain⟨a1,k1,a2,k2,a3,k3,rfl,rfl,rfl,hl1,hl2,hl3⟩:=hp.shape
 generalize OO p.frame t=m at*
 clear hp hz
 refine(callsIn_wide (n:=3)).1 ?_
 ((refine callsIn_of_wp_marks Tryz.func33 rfl trivial ?_ rfl);(simp only[Tryz.ntmps33,List.size_toArray,List.length_cons,List.length_nil,Nat.reduceAdd,Nat.reduceSub,Array.replicate_succ,Array.replicate_zero,List.push_toArray,List.append_toArray,List.nil_append,List.cons_append]))
 gi_wp2
 refine⟨trivial,callsIn_wide.2 ((Sb.out _).mono ?_)⟩
 rintro e w1 ⟨rfl,hb1⟩
 have hq0:aC (((w.alloc (.cells #[.slice a1 p.parts.length k1,.int .i64 p.frame,.slice a2 p.wins.length k2,.slice a3 p.chans.length k3] 26)).alloc (.cells #[.int .i64 0] 3)).alloc (.cells #[.int .i64 0] 3)) w.heap.size #[.slice a1 p.parts.length k1,.int .i64 p.frame,.slice a2 p.wins.length k2,.slice a3 p.chans.length k3] 26:=((aC.new _ _ _).alloc _).alloc _
 have hq1:aC (((w.alloc (.cells #[.slice a1 p.parts.length k1,.int .i64 p.frame,.slice a2 p.wins.length k2,.slice a3 p.chans.length k3] 26)).alloc (.cells #[.int .i64 0] 3)).alloc (.cells #[.int .i64 0] 3)) (w.heap.size+1) #[.int .i64 0] 3:=(aC.new1 _ _ _ aI).alloc _
 have hq2:aC (((w.alloc (.cells #[.slice a1 p.parts.length k1,.int .i64 p.frame,.slice a2 p.wins.length k2,.slice a3 p.chans.length k3] 26)).alloc (.cells #[.int .i64 0] 3)).alloc (.cells #[.int .i64 0] 3)) (w.heap.size+1+1) #[.int .i64 0] 3:=aC.new1 _ _ _ aI
 have hx0:Below w.heap.size w (((w.alloc (.cells #[.slice a1 p.parts.length k1,.int .i64 p.frame,.slice a2 p.wins.length k2,.slice a3 p.chans.length k3] 26)).alloc (.cells #[.int .i64 0] 3)).alloc (.cells #[.int .i64 0] 3)):=(((Below.refl _ _).alloc (Nat.le_refl _) _).alloc aI _).alloc aR _
 have hx1:Below w.heap.size w w1:=hx0.trans (hb1.mono hx0.size)
 have hz1:=hb1.size
 simp only[World.size_alloc] at hz1
 have hp1:=(hq0.below hb1 hq0.lt).alloc (.cells #[.int .i64 m] 3)
 have hr1:=(hq1.below hb1 hq1.lt).alloc (.cells #[.int .i64 m] 3)
 have hr2:=(hq2.below hb1 hq2.lt).alloc (.cells #[.int .i64 m] 3)
 have Lp:=aC.new w1 (#[.int .i64 m]:Array Value) 3
 have hx2:Below w.heap.size w (w1.alloc (.cells #[.int .i64 m] 3)):=hx1.alloc hx1.size _
 obtain⟨c0,f0,l0,n0,m0⟩:=hp1.rules
 clear hq0 hq1 hq2 hb1 hx0
 gi_wp2
 refine⟨trivial,callsIn_wide.2 ((MJ _ _ _ _ _ _).mono ?_)⟩
 rintro e w2 ⟨rfl,hw2⟩
 have hz1':(w1.alloc (.cells #[.int .i64 m] 3)).heap.size=w1.heap.size+1:=aI
 generalize hW1:w1.alloc (.cells #[.int .i64 m] 3)=w1b at*
 clear hW1 c0 f0 l0 n0 m0 hp1
 have hb2:Below w1b.heap.size w1b w2:=EW
 have hz2:w2.heap.size=w1b.heap.size+1+1:=by subst hw2;simp
 have hs1:aC w2 w1b.heap.size #[.slice a1 p.parts.length k1,.int .i64 p.frame,.slice a2 p.wins.length k2,.slice a3 p.chans.length k3] 26:=J8
 have hs2:aC w2 (w1b.heap.size+1) #[.int .i64 sched] 3:=Fh
 have hx3:Below w.heap.size w w2:=hx2.trans (hb2.mono hx2.size)
 have hr1':=hr1.below hb2 hr1.lt
 have hr2':=hr2.below hb2 hr2.lt
 have ahL:=Lp.below hb2 Lp.lt
 have hbody:Body Tryz.prog 77:=eZ Tryz.func77 aj aj
 unfold Body at hbody
 clear hw2 hr1 hr2 Lp
 rw[hz1'] at hs1 hs2
 have hzx:=hx3.size
 gi_wp2
 clear hz1' hz2
 refine wpIn_rangeFunc_ownH rfl ah (gf:=77) (lb:=#[.pointer (some ⟨w1.heap.size+1,0,none⟩),.pointer (some ⟨w1.heap.size+1+1,0,none⟩)]) rfl trivial hbody
  (F9 2 _ _ _ _ _ p sched za w2 ah HZ.out (HP.out.below hx3) hs1 hs2) belowK_t (belowK_b (Nat.le_refl _)) (Below.refl _ _) (fun _=>rfl)
  (fun pre W=>nO (vZ m) pre∧Below w2.heap.size w2 W)
  (fun c pre W=>c=.ret∧Mx m (w.heap.size+1) (w.heap.size+1+1) w pre W)
  (OwnFrom.and (ownFrom_pure _ _) (ownFrom_below (Nat.le_refl _) (Nat.le_refl _)))
  (fun c=>OwnFrom.and (ownFrom_pure _ (fun _=>c=.ret)) (Cm hx3.size))
  ⟨JV,Below.refl _ _⟩
  (fun x a' W=>∃Bx,aC W Bx #[.int .i64 x.1.1,.int .i64 x.1.2.1,.int .i64 x.1.2.2] 76∧
   a'={tmps:=#[.agg #[.slice a1 p.parts.length k1,.int .i64 p.frame,.slice a2 p.wins.length k2,.slice a3 p.chans.length k3],.int .i64 sched,.int .u64 t,.pointer (some ⟨w.heap.size,0,none⟩),undef,undef,.pointer (some ⟨w.heap.size+1,0,none⟩),.pointer (some ⟨w.heap.size+1+1,0,none⟩),.pointer (some ⟨w1.heap.size,0,none⟩),.pointer (some ⟨Bx,0,none⟩),undef,.agg #[.slice a1 p.parts.length k1,.int .i64 p.frame,.slice a2 p.wins.length k2,.slice a3 p.chans.length k3],.int .u64 t,.int .i64 m,.agg #[.slice a1 p.parts.length k1,.int .i64 p.frame,.slice a2 p.wins.length k2,.slice a3 p.chans.length k3],.int .i64 sched,.func (.func 77) #[] #[.pointer (some ⟨w1.heap.size+1,0,none⟩),.pointer (some ⟨w1.heap.size+1+1,0,none⟩)],Lv x.1,undef,undef,undef,undef,undef,undef,undef,undef,undef,undef,undef,undef,undef,undef,undef,undef,undef,undef,undef,undef],defers:=[]})
  (fun x a' _ X Y row hs hg hr=>by
   obtain⟨Bx,hb,rfl⟩:=hs
   exact⟨Bx,Own.from (fI (β:=Unit) Bx 76 (fun _=>#[.int .i64 x.1.1,.int .i64 x.1.2.1,.int .i64 x.1.2.2])) _ () X Y row hb hg hr,rfl⟩) ?assign ?body ?done ?stop
 case assign=>
  rintro l pre x W K ⟨hno,hB⟩ hK
  gi_wp2
  exact Yd
 case body=>
  rintro l pre x a' W hl ⟨r,hr⟩ ⟨hno,hB⟩ ⟨Bx,hb,rfl⟩ hlt
  obtain⟨⟨xp,xf,xl⟩,hxw⟩:=x
  have abp:=hxw
  unfold WOk at abp
  dsimp only at abp hb
  have ajY:=ahL.below hB ahL.lt
  have Bv:=hr1'.below hB hr1'.lt
  have vY:=hr2'.below hB hr2'.lt
  obtain⟨c1,f1,l1,n1,m1⟩:=ajY.rules
  obtain⟨c2,f2,l2,n2,m2⟩:=hb.rules
  obtain⟨c3,f3,l3,n3,m3⟩:=Bv.rules
  obtain⟨c4,f4,l4,n4,m4⟩:=vY.rules
  have hwr:IntKind.i64.wrap (m-xf)=m-xf:=IntWalk.i64_in _ ah
  have hxB:Below w.heap.size w W:=hx3.trans (hB.mono hx3.size)
  have LJ:=Lib.hid hno
  have HXW:=Lib.hid abp
  have yF:=Bv.set 0 (.int .i64 xp)
  have SC:=vY.other ⟨w.heap.size+1,0,none⟩ (.int .i64 xp) ada
  clear hno abp
  by_cases g1:m<xf
  ·have g1d:decide (m<xf)=true:=by simpa using g1
   have g1e:decide (m-xf<0)=true:=aR
   gi_wp2
   exact Y1
  have g1d:decide (m<xf)=false:=by simpa using g1
  have g1e:decide (m-xf<0)=false:=aR
  by_cases g2:xl≤m-xf
  ·have g2d:decide (xl≤m-xf)=true:=by simpa using g2
   gi_wp2
   exact Y1
  have g2d:decide (xl≤m-xf)=false:=by simpa using g2
  have HG:=Lib.hid (And.intro g1 g2)
  by_cases g3:m-xf<2
  ·have g3d:decide (m-xf<2)=true:=by simpa using g3
   gi_wp2
   refine⟨((KeepsOthers.setCell _ _ _).from _).trans ((KeepsOthers.setCell _ _ _).from _),rfl,⟨(xp,xf,xl),hxw⟩,pre,rfl,LJ.out,?_,⟨?_,?_⟩,?_⟩
   ·have:=HG.out;unfold vZ;simp;omega
   ·exact adX
   ·have:=SC.set 0 (.int .i64 1)
    unfold zT
    rw[if_pos (show m-xf<2 by omega)]
    exact this
   ·exact Yf
  ·have g3d:decide (m-xf<2)=false:=by simpa using g3
   gi_wp2
   refine⟨((KeepsOthers.setCell _ _ _).from _).trans ((KeepsOthers.setCell _ _ _).from _),rfl,⟨(xp,xf,xl),hxw⟩,pre,rfl,LJ.out,?_,⟨?_,?_⟩,?_⟩
   ·have:=HG.out;unfold vZ;simp;omega
   ·exact adX
   ·have:=SC.set 0 (.int .i64 2)
    unfold zT
    rw[if_neg (show¬m-xf<2 by omega)]
    exact this
   ·exact Yf
 case done=>
  rintro D ys W hD rfl ⟨hno,hB⟩ hK
  have Bv:=hr1'.below hB hr1'.lt
  have vY:=hr2'.below hB hr2'.lt
  obtain⟨c3,f3,l3,n3,m3⟩:=Bv.rules
  obtain⟨c4,f4,l4,n4,m4⟩:=vY.rules
  have hxB:Below w.heap.size w W:=hx3.trans (hB.mono hx3.size)
  have hat:LB (ys.map (·.1)) m=(-1,0):=by unfold LB;rw[hno.none]
  have HAT:=Lib.hid hat
  have yF:=(Bv.set 0 (.int .i64 (-1))).other ⟨w.heap.size+1+1,0,none⟩ (.int .i64 0) ac'
  have Mr:=(vY.other ⟨w.heap.size+1,0,none⟩ (.int .i64 (-1)) ada).set 0 (.int .i64 0)
  have HAT:=Lib.hid hat
  have hlt2:=hr2'.lt
  have xZ:((W.setCell ⟨w.heap.size+1,0,none⟩ (.int .i64 (-1))).setCell ⟨w.heap.size+1+1,0,none⟩ (.int .i64 0)).heap[D]?=some (.deferred (some [])):=by
   rw[heap_setCell_other _ _ _ _ tJ,heap_setCell_other _ _ _ _ (by show¬D=w.heap.size+1;omega)];exact hK
  clear hno hat
  gi_wp2
  rw[HAT.out]
  refine⟨aI,.inl ⟨_,_,rfl,run_takeDeferred xZ,?_⟩⟩
  have b1:=((Own.from (fI (β:=Unit) _ 3 (fun _=>_)) w2.heap.size).putObj (s:=()) (Obj.deferred none) yF hD xZ rfl).rules.1 0
  have b2:=((Own.from (fI (β:=Unit) _ 3 (fun _=>_)) w2.heap.size).putObj (s:=()) (Obj.deferred none) Mr hD xZ rfl).rules.1 0
  refine⟨.tuple #[.int .i64 (-1),.int .i64 0],YT,rfl,?_⟩
  refine Below.trans ?_ (belowK_b (w:=w2) hx3.size _ D _ _ hD xZ rfl rfl)
  exact Yf
 case stop=>
  rintro D c pre W hD hpre ⟨rfl,x,ys,rfl,h2,h3,⟨h4,h5⟩,h6⟩ hK
  have hat:LB (za.map (·.1)) m=(x.1.1,zT m x.1):=by unfold LB;rw[h2.some h3 hpre]
  gi_wp2
  rw[hat]
  refine⟨aI,.inl ⟨_,_,rfl,run_takeDeferred hK,?_⟩⟩
  have b1:=((Own.from (fI (β:=Unit) _ 3 (fun _=>_)) w2.heap.size).putObj (s:=()) (Obj.deferred none) h4 hD hK rfl).rules.1 0
  have b2:=((Own.from (fI (β:=Unit) _ 3 (fun _=>_)) w2.heap.size).putObj (s:=()) (Obj.deferred none) h5 hD hK rfl).rules.1 0
  refine⟨.tuple #[.int .i64 x.1.1,.int .i64 (zT m x.1)],YT,rfl,?_⟩
  exact X6
end Go.Proofs.YtgmodehldmahiaaGreatDoor.Plan
namespace Go.Proofs.YtgmodehldmahiaaGreatDoor.Plan
open Go Go.RowKit Go.Tm
attribute [local go_sem] Oper.semAt_some
def L6(m:Int)(x:Wn):Bool:=decide (x.2.1=m)
noncomputable def uW(p:iE)(sched t:Int):Bool:=(nE p sched).any (L6 (OO p.frame t))
def Zw(m:Int)(B1:Nat)(w:World)(pre:List Wa)(W:World):Prop:=
 ∃(x:Wa) (ys:List Wa),pre=ys++[x]∧L6 m x.1=true∧aC W B1 #[.bool true] 4∧Below w.heap.size w W
theorem Rn{m:Int}{B1:Nat}{w:World}{B:Nat}(hB:w.heap.size≤B):OwnFrom B (Zw m B1 w):=by
 intro pre X Y row hs hg hr
 obtain⟨x,ys,h1,h3,h4,h6⟩:=hs
 exact⟨x,ys,h1,h3,Own.from (fI (β:=Unit) _ 4 (fun _=>#[.bool true])) _ () X Y row h4 hg hr,ownFrom_below (β:=Unit) (Nat.le_refl _) hB () X Y row h6 hg hr⟩
set_option maxRecDepth 100000 in
set_option maxHeartbeats 8000000 in
theorem QU(pv wv cv:Value)(p:iE)(sched t:Int)(w:World)(hp:gq w pv wv cv p)(ht:0≤t)(hf:p.frame≤9223372036854775807):
  Calls Tryz.prog 34 #[wC pv wv cv p,.int .i64 sched,.int .u64 t] w fun e w'=>e=.returned (.bool (uW p sched t))∧Below w.heap.size w w':=by
 have HP:=Lib.hid hp
 have Sb:=Lib.hid (fun W=>xL pv wv cv p t W ht hf)
 obtain⟨za,hz⟩:=MI (l:=nE p sched) vg
 have HZ:=Lib.hid hz
 unfold uW
 rw[←hz]
 obtain⟨a1,k1,a2,k2,a3,k3,rfl,rfl,rfl,hl1,hl2,hl3⟩:=hp.shape
 generalize OO p.frame t=m at*
 clear hp hz
 refine(callsIn_wide (n:=3)).1 ?_
 ((refine callsIn_of_wp_marks Tryz.func34 rfl trivial ?_ rfl);(simp only[Tryz.ntmps34,List.size_toArray,List.length_cons,List.length_nil,Nat.reduceAdd,Nat.reduceSub,Array.replicate_succ,Array.replicate_zero,List.push_toArray,List.append_toArray,List.nil_append,List.cons_append]))
 have hq0:aC (((w.alloc (.cells #[.slice a1 p.parts.length k1,.int .i64 p.frame,.slice a2 p.wins.length k2,.slice a3 p.chans.length k3] 26)).alloc (.cells #[.int .u64 t] 32)).alloc (.cells #[.bool false] 4)) w.heap.size #[.slice a1 p.parts.length k1,.int .i64 p.frame,.slice a2 p.wins.length k2,.slice a3 p.chans.length k3] 26:=((aC.new _ _ _).alloc _).alloc _
 have hq1:aC (((w.alloc (.cells #[.slice a1 p.parts.length k1,.int .i64 p.frame,.slice a2 p.wins.length k2,.slice a3 p.chans.length k3] 26)).alloc (.cells #[.int .u64 t] 32)).alloc (.cells #[.bool false] 4)) (w.heap.size+1) #[.int .u64 t] 32:=(aC.new1 _ _ _ aI).alloc _
 have hq2:aC (((w.alloc (.cells #[.slice a1 p.parts.length k1,.int .i64 p.frame,.slice a2 p.wins.length k2,.slice a3 p.chans.length k3] 26)).alloc (.cells #[.int .u64 t] 32)).alloc (.cells #[.bool false] 4)) (w.heap.size+1+1) #[.bool false] 4:=aC.new1 _ _ _ aI
 have hx0:Below w.heap.size w (((w.alloc (.cells #[.slice a1 p.parts.length k1,.int .i64 p.frame,.slice a2 p.wins.length k2,.slice a3 p.chans.length k3] 26)).alloc (.cells #[.int .u64 t] 32)).alloc (.cells #[.bool false] 4)):=(((Below.refl _ _).alloc (Nat.le_refl _) _).alloc aI _).alloc aR _
 gi_wp2
 have hz0:(((w.alloc (.cells #[.slice a1 p.parts.length k1,.int .i64 p.frame,.slice a2 p.wins.length k2,.slice a3 p.chans.length k3] 26)).alloc (.cells #[.int .u64 t] 32)).alloc (.cells #[.bool false] 4)).heap.size=w.heap.size+1+1+1:=aI
 refine⟨trivial,callsIn_wide.2 ((MJ _ _ _ _ _ _).mono ?_)⟩
 rintro e w2 ⟨rfl,hw2⟩
 generalize hW1:(((w.alloc (.cells #[.slice a1 p.parts.length k1,.int .i64 p.frame,.slice a2 p.wins.length k2,.slice a3 p.chans.length k3] 26)).alloc (.cells #[.int .u64 t] 32)).alloc (.cells #[.bool false] 4))=w1 at*
 clear hW1
 have hb2:Below w1.heap.size w1 w2:=EW
 have hs1:aC w2 w1.heap.size #[.slice a1 p.parts.length k1,.int .i64 p.frame,.slice a2 p.wins.length k2,.slice a3 p.chans.length k3] 26:=J8
 have hs2:aC w2 (w1.heap.size+1) #[.int .i64 sched] 3:=Fh
 have hx3:Below w.heap.size w w2:=hx0.trans (hb2.mono hx0.size)
 have hp2:=hq0.below hb2 hq0.lt
 have hr1:=hq1.below hb2 hq1.lt
 have hr2:=hq2.below hb2 hq2.lt
 have hbody:Body Tryz.prog 77:=eZ Tryz.func77 aj aj
 unfold Body at hbody
 clear hw2 hq0 hq1 hq2
 rw[hz0] at hs1 hs2
 have hzx:=hx3.size
 gi_wp2
 clear hz0
 refine wpIn_rangeFunc_ownH rfl ah (gf:=77) (lb:=#[.pointer (some ⟨w.heap.size+1+1+1,0,none⟩),.pointer (some ⟨w.heap.size+1+1+1+1,0,none⟩)]) rfl trivial hbody
  (F9 2 _ _ _ _ _ p sched za w2 ah HZ.out (HP.out.below hx3) hs1 hs2) belowK_t (belowK_b (Nat.le_refl _)) (Below.refl _ _) (fun _=>rfl)
  (fun pre W=>nO (L6 m) pre∧Below w2.heap.size w2 W)
  (fun c pre W=>c=.ret∧Zw m (w.heap.size+1+1) w pre W)
  (OwnFrom.and (ownFrom_pure _ _) (ownFrom_below (Nat.le_refl _) (Nat.le_refl _)))
  (fun c=>OwnFrom.and (ownFrom_pure _ (fun _=>c=.ret)) (Rn hx3.size))
  ⟨JV,Below.refl _ _⟩
  (fun x a' W=>∃Bx,aC W Bx #[.int .i64 x.1.1,.int .i64 x.1.2.1,.int .i64 x.1.2.2] 76∧
   a'={tmps:=#[.agg #[.slice a1 p.parts.length k1,.int .i64 p.frame,.slice a2 p.wins.length k2,.slice a3 p.chans.length k3],.int .i64 sched,.int .u64 t,.pointer (some ⟨w.heap.size,0,none⟩),undef,.pointer (some ⟨w.heap.size+1,0,none⟩),.pointer (some ⟨w.heap.size+1+1,0,none⟩),.pointer (some ⟨Bx,0,none⟩),.agg #[.slice a1 p.parts.length k1,.int .i64 p.frame,.slice a2 p.wins.length k2,.slice a3 p.chans.length k3],.int .i64 sched,.func (.func 77) #[] #[.pointer (some ⟨w.heap.size+1+1+1,0,none⟩),.pointer (some ⟨w.heap.size+1+1+1+1,0,none⟩)],Lv x.1,undef,undef,undef,undef,undef,undef],defers:=[]})
  (fun x a' _ X Y row hs hg hr=>by
   obtain⟨Bx,hb,rfl⟩:=hs
   exact⟨Bx,Own.from (fI (β:=Unit) Bx 76 (fun _=>#[.int .i64 x.1.1,.int .i64 x.1.2.1,.int .i64 x.1.2.2])) _ () X Y row hb hg hr,rfl⟩) ?assign ?body ?done ?stop
 case assign=>
  rintro l pre x W K ⟨hno,hB⟩ hK
  gi_wp2
  exact Yd
 case body=>
  rintro l pre x a' W hl ⟨r,hr⟩ ⟨hno,hB⟩ ⟨Bx,hb,rfl⟩ hlt
  obtain⟨⟨xp,xf,xl⟩,hxw⟩:=x
  dsimp only at hb
  have LJ:=Lib.hid hno
  have hpW:=hp2.below hB hp2.lt
  have Bv:=hr1.below hB hr1.lt
  have vY:=hr2.below hB hr2.lt
  have hxB:Below w.heap.size w W:=hx3.trans (hB.mono hx3.size)
  have hcy:∀dd os,Calls Tryz.prog 59 #[.agg #[.slice a1 p.parts.length k1,.int .i64 p.frame,.slice a2 p.wins.length k2,.slice a3 p.chans.length k3],.int .u64 t] (Go.Sort.grow (redrawn W dd) os) fun e w''=>e=.returned (.int .i64 m)∧∃p:Regrown,w''=Go.Sort.grow (redrawn W p.d) p.os:=fun dd os=>Calls.regrown_of (Sb.out _)
  have CY:=Lib.hid hcy
  have g1:=hpW.qL
  have g2:=Bv.qL
  have g3:=hb.qL
  clear hno hcy
  by_cases he:xf=m
  ·have heb:(xf==m)=true:=by simpa using he
   have HE:=Lib.hid he
   clear he
   gi_wp2
   ((refine nS aj aj aj ?_);(repeat(go_big_quiet_step ((first|(go_at_call 59;with_reducible exact CY.out _ _)))));(refine wpQuiet_nil ?_);(intro _ hw');(obtain⟨⟨dq,osq⟩,hw''⟩:=hw');(subst hw'');(have oZ:=below_regrown W dq osq);(generalize Go.Sort.grow (redrawn W dq) osq=w7 at*);(have Io:=oZ.size))
   clear g1 g2 g3
   have ahD:=vY.below oZ vY.lt
   obtain⟨c4,f4,l4,n4,m4⟩:=ahD.rules
   gi_wp2
   refine⟨(Dz oZ).trans ((KeepsOthers.setCell _ _ _).from _),rfl,⟨(xp,xf,xl),hxw⟩,pre,rfl,?_,?_,?_⟩
   ·unfold L6;simpa using HE.out
   ·exact ahD.set 0 (.bool true)
   ·exact(hxB.trans (oZ.mono hxB.size)).setCell (p:=⟨w.heap.size+1+1,0,none⟩) rM _
  ·have heb:(xf==m)=false:=by simpa using he
   have HE:=Lib.hid he
   clear he
   gi_wp2
   ((refine nS aj aj aj ?_);(repeat(go_big_quiet_step ((first|(go_at_call 59;with_reducible exact CY.out _ _)))));(refine wpQuiet_nil ?_);(intro _ hw');(obtain⟨⟨dq,osq⟩,hw''⟩:=hw');(subst hw'');(have oZ:=below_regrown W dq osq);(generalize Go.Sort.grow (redrawn W dq) osq=w7 at*);(have Io:=oZ.size))
   clear g1 g2 g3
   gi_wp2
   exact⟨Dz oZ,oZ.mono hB.size,LJ.out.snoc (by have:=HE.out;unfold L6;simpa using this),hB.trans (oZ.mono hB.size)⟩
 case done=>
  rintro D ys W hD rfl ⟨hno,hB⟩ hK
  have vY:=hr2.below hB hr2.lt
  obtain⟨c4,f4,l4,n4,m4⟩:=vY.rules
  have hxB:Below w.heap.size w W:=hx3.trans (hB.mono hx3.size)
  have hat:(ys.map (·.1)).any (L6 m)=false:=by
   rw[List.any_eq_false]
   intro y hy
   obtain⟨x,hx,rfl⟩:=List.mem_map.1 hy
   rw[hno x hx];simp
  have HAT:=Lib.hid hat
  have hlt2:=hr2.lt
  have Mr:=vY.set 0 (.bool false)
  have xZ:(W.setCell ⟨w.heap.size+1+1,0,none⟩ (.bool false)).heap[D]?=some (.deferred (some [])):=by
   rw[heap_setCell_other _ _ _ _ tJ];exact hK
  clear hno hat
  gi_wp2
  rw[HAT.out]
  refine⟨aI,.inl ⟨_,_,rfl,run_takeDeferred xZ,?_⟩⟩
  have b2:=((Own.from (fI (β:=Unit) _ 4 (fun _=>_)) w2.heap.size).putObj (s:=()) (Obj.deferred none) Mr hD xZ rfl).rules.1 0
  refine⟨.bool false,by simp[results,Tryz.results34,go_sem,b2],rfl,?_⟩
  refine Below.trans ?_ (belowK_b (w:=w2) hx3.size _ D _ _ hD xZ rfl rfl)
  exact hxB.setCell (p:=⟨w.heap.size+1+1,0,none⟩) rM _
 case stop=>
  rintro D c pre W hD hpre ⟨rfl,x,ys,rfl,h3,h5,h6⟩ hK
  have hat:(za.map (·.1)).any (L6 m)=true:=by
   rw[List.any_eq_true]
   exact⟨x.1,List.mem_map.2 ⟨x,hpre.subset aI,rfl⟩,h3⟩
  gi_wp2
  rw[hat]
  refine⟨aI,.inl ⟨_,_,rfl,run_takeDeferred hK,?_⟩⟩
  have b2:=((Own.from (fI (β:=Unit) _ 4 (fun _=>_)) w2.heap.size).putObj (s:=()) (Obj.deferred none) h5 hD hK rfl).rules.1 0
  refine⟨.bool true,by simp[results,Tryz.results34,go_sem,b2],rfl,?_⟩
  exact X6
end Go.Proofs.YtgmodehldmahiaaGreatDoor.Plan
namespace Go.Proofs.YtgmodehldmahiaaGreatDoor.Plan
open Go Go.RowKit Go.Tm
end Go.Proofs.YtgmodehldmahiaaGreatDoor.Plan
namespace Go.Proofs.YtgmodehldmahiaaGreatDoor.Plan
open Go Go.RowKit Go.Tm
end Go.Proofs.YtgmodehldmahiaaGreatDoor.Plan
namespace Go.Proofs.YtgmodehldmahiaaGreatDoor.Plan
open Go Go.RowKit Go.Tm
end Go.Proofs.YtgmodehldmahiaaGreatDoor.Plan
namespace Go.Proofs.YtgmodehldmahiaaGreatDoor.Plan
open Go Go.RowKit Go.Tm
def There(p:iE)(sched:Int):Prop:=dW p∧0≤sched∧sched<p.wins.length
open Classical in
noncomputable def uV(p:iE)(sched:Int):Bool:=decide (There p sched)
theorem rY(p:iE)(sched:Int):uV p sched=true↔There p sched:=by simp[uV]
theorem I7(pv wv cv:Value)(p:iE)(sched:Int)(w:World)(hp:gq w pv wv cv p):
  Calls Tryz.prog 40 #[wC pv wv cv p,.int .i64 sched] w fun e w'=>e=.returned (.bool (uV p sched))∧Below w.heap.size w w':=by
 have HP:=Lib.hid hp
 have KC:=Lib.hid (fun W (h:gq W pv wv cv p)=>Lb pv wv cv p W h)
 have KT:=Lib.hid (rY p sched)
 obtain⟨a1,k1,a2,k2,a3,k3,rfl,rfl,rfl,hl1,hl2,hl3⟩:=hp.shape
 clear hp
 go_enter Tryz.func40,Tryz.ntmps40
 go_wp2_with fail
 have hbx0:=aC.new w (#[.slice a1 p.parts.length k1,.int .i64 p.frame,.slice a2 p.wins.length k2,.slice a3 p.chans.length k3]:Array Value) 26
 have hx0:Below w.heap.size w (w.alloc (.cells #[.slice a1 p.parts.length k1,.int .i64 p.frame,.slice a2 p.wins.length k2,.slice a3 p.chans.length k3] 26)):=(Below.refl _ _).alloc (Nat.le_refl _) _
 generalize hW0:w.alloc (.cells #[.slice a1 p.parts.length k1,.int .i64 p.frame,.slice a2 p.wins.length k2,.slice a3 p.chans.length k3] 26)=w0 at*
 clear hW0
 with_reducible refine(KC.out _ (HP.out.below hx0)).mono ?_
 rintro e w1 ⟨⟨k,rfl,hk⟩,hb⟩
 have hx1:=hx0.trans (hb.mono hx0.size)
 have Eu:=hbx0.below hb hbx0.lt
 clear hb
 obtain⟨c1,f1,l1,n1,m1⟩:=Eu.rules
 by_cases hpk:dW p
 case neg=>
  have hk0:(k==0)=false:=by simp;exact fun e=>hpk (hk.1 e)
  have hf:uV p sched=false:=by rw[Bool.eq_false_iff];exact fun h=>hpk (KT.out.1 h).1
  clear hk
  exact X_
 obtain rfl:k=0:=hk.2 hpk
 clear hk
 by_cases h0:0≤sched
 case neg=>
  have h0d:decide (0≤sched)=false:=by simpa using h0
  have hf:uV p sched=false:=by rw[Bool.eq_false_iff];exact fun h=>h0 (KT.out.1 h).2.1
  exact X_
 have h0d:decide (0≤sched)=true:=by simpa using h0
 by_cases h1:sched<p.wins.length
 case neg=>
  have h1d:decide (sched<(p.wins.length:Int))=false:=BJ
  have hf:uV p sched=false:=by rw[Bool.eq_false_iff];exact fun h=>h1 (KT.out.1 h).2.2
  exact X_
 have h1d:decide (sched<(p.wins.length:Int))=true:=BJ
 have hf:uV p sched=true:=KT.out.2 ⟨hpk,h0,h1⟩
 have HF:=Lib.hid hf
 clear hf
 go_wp2_with fail
 go_ret
 exact⟨by rw[HF.out];simp<;>omega,hx1⟩
theorem La(pv wv cv:Value)(p:iE)(sched m:Int)(w:World)(hp:gq w pv wv cv p):
  Calls Tryz.prog 41 #[wC pv wv cv p,.int .i64 sched,.int .i64 m] w fun e w'=>e=.returned (.tuple #[.int .i64 (LB (nE p sched) m).1,.int .i64 (LB (nE p sched) m).2])∧Below w.heap.size w w':=by
 have HP:=Lib.hid hp
 have KT:=Lib.hid (fun W (h:gq W pv wv cv p)=>I7 pv wv cv p sched W h)
 obtain⟨a1,k1,a2,k2,a3,k3,rfl,rfl,rfl,hl1,hl2,hl3⟩:=hp.shape
 clear hp
 by_cases hth:There p sched
 case neg=>
  rw[show uV p sched=false by rw[Bool.eq_false_iff];exact fun h=>hth ((rY p sched).1 h)] at KT
  rw[qc hth,show LB [] m=(-1,0) from rfl]
  go_enter Tryz.func41,Tryz.ntmps41
  go_wp2_with fail
  have hbx0:=aC.new w (#[.slice a1 p.parts.length k1,.int .i64 p.frame,.slice a2 p.wins.length k2,.slice a3 p.chans.length k3]:Array Value) 26
  have hx0:Below w.heap.size w (w.alloc (.cells #[.slice a1 p.parts.length k1,.int .i64 p.frame,.slice a2 p.wins.length k2,.slice a3 p.chans.length k3] 26)):=(Below.refl _ _).alloc (Nat.le_refl _) _
  generalize hW0:w.alloc (.cells #[.slice a1 p.parts.length k1,.int .i64 p.frame,.slice a2 p.wins.length k2,.slice a3 p.chans.length k3] 26)=w0 at*
  clear hW0
  with_reducible refine(KT.out _ (HP.out.below hx0)).mono ?_
  rintro e w1 ⟨rfl,hb⟩
  have hx1:=hx0.trans (hb.mono hx0.size)
  have Eu:=hbx0.below hb hbx0.lt
  clear hb
  obtain⟨c1,f1,l1,n1,m1⟩:=Eu.rules
  go_wp2_with fail
  exact bodyPost_ret (v:= .tuple #[.int .i64 (-1),.int .i64 0]) J2 rfl ⟨rfl,hx1⟩
 rw[(rY p sched).2 hth] at KT
 obtain⟨hpk,h0,h1⟩:=hth
 obtain⟨s,rfl⟩:∃s:Nat,sched=s:=⟨sched.toNat,ah⟩
 obtain⟨l,hl⟩:∃l,p.wins[s]?=some l:=⟨_,List.getElem?_eq_getElem ah⟩
 have hzl:nE p s=l:=xE hpk h0 h1 ET
 have OE:=Lib.hid (fun x (hx:x∈l)=>vg x (by rw[hzl];exact hx))
 rw[hzl]
 obtain⟨b,off,a5,c5,rfl,hb0,hcell0,hll,hsl⟩:=oD.at HP.out.wins hl
 have HSL:=Lib.hid hsl
 have nu:=Lib.hid hcell0
 clear hl hsl hzl hcell0
 go_enter Tryz.func41,Tryz.ntmps41
 go_wp2_with fail
 have hbx0:=aC.new w (#[.slice a1 p.parts.length k1,.int .i64 p.frame,.slice (some ⟨b,off,none⟩) p.wins.length k2,.slice a3 p.chans.length k3]:Array Value) 26
 have hx0:Below w.heap.size w (w.alloc (.cells #[.slice a1 p.parts.length k1,.int .i64 p.frame,.slice (some ⟨b,off,none⟩) p.wins.length k2,.slice a3 p.chans.length k3] 26)):=(Below.refl _ _).alloc (Nat.le_refl _) _
 generalize hW0:w.alloc (.cells #[.slice a1 p.parts.length k1,.int .i64 p.frame,.slice (some ⟨b,off,none⟩) p.wins.length k2,.slice a3 p.chans.length k3] 26)=w0 at*
 clear hW0
 with_reducible refine(KT.out _ (HP.out.below hx0)).mono ?_
 rintro e w1 ⟨rfl,hb⟩
 have hx1:=hx0.trans (hb.mono hx0.size)
 have Eu:=hbx0.below hb hbx0.lt
 clear hb
 obtain⟨c1,f1,l1,n1,m1⟩:=Eu.rules
 have He:=Lib.hid Eu
 go_wp2_with fail
 clear c1 f1 l1 n1 m1
 go_loopw [9] (fun t W=>∃i:Nat,i≤l.length∧t=.int .i64 i∧RowKit.Hid (∀j x,j<i→l[j]?=some x→vZ m x=false)∧Below w1.heap.size w1 W) (fun t _=>l.length-(intOf t).toNat)
 case atStart=>exact⟨0,Nat.zero_le _,rfl,Lib.hid (by intro j x h;omega),Below.refl _ _⟩
 case round=>
  obtain⟨i,hi,rfl,LJ,hbw⟩:=hrel
  have hws:=hbw.size
  have hxw:Below w.heap.size w wr:=hx1.trans (hbw.mono hx1.size)
  have aj7:=He.out.below hbw He.out.lt
  obtain⟨c1,f1,l1,n1,m1⟩:=aj7.rules
  have hcell:=(hxw.cell (p:=⟨b,off+s,none⟩) hb0).trans nu.out
  have hbr:b<wr.heap.size:=Nat.lt_of_lt_of_le hb0 hxw.size
  by_cases hlt:i<l.length
  ·have hwi:IntKind.i64.wrap ((i:Int)+1)=i+1:=IntWalk.i64_in _ ah
   obtain⟨⟨xp,xf,xl⟩,hx⟩:∃x,l[i]?=some x:=⟨_,List.getElem?_eq_getElem hlt⟩
   obtain⟨b2,off2,rfl,hb2,q0,q1,q2⟩:=Sl.wn (HSL.out.below hxw) hx
   have hok:=OE.out _ (List.mem_of_getElem? hx)
   unfold WOk at hok
   dsimp only at hok q0 q1 q2
   have OW:=Lib.hid hx
   have hw1:IntKind.i64.wrap (xf+xl)=xf+xl:=IntWalk.i64_in _ ah
   have hw2:IntKind.i64.wrap (xf+2)=xf+2:=IntWalk.i64_in _ ah
   have uF:vZ m (xp,xf,xl)=true→LB l m=(xp,zT m (xp,xf,xl)):=by
    intro h
    have h2:l.find? (vZ m)=some (xp,xf,xl):=by
     rw[List.find?_eq_some_iff_getElem]
     refine⟨h,i,hlt,by rw[List.getElem?_eq_getElem hlt] at hx;simpa using hx,?_⟩
     intro j hj
     rw[LJ.out j l[j] hj (List.getElem?_eq_getElem ah)]
     rfl
    unfold LB
    rw[h2]
   have HFD:=Lib.hid uF
   clear hx uF
   by_cases g1:xf≤m
   ·have g1d:decide (xf≤m)=true:=by simpa using g1
    by_cases g2:m<xf+xl
    ·have g2d:decide (m<xf+xl)=true:=by simpa using g2
     have hat:=HFD.out (by unfold vZ;simp;omega)
     have HAT:=Lib.hid hat
     clear hat
     by_cases g3:m<xf+2
     ·have g3d:decide (m<xf+2)=true:=by simpa using g3
      have hho:zT m (xp,xf,xl)=1:=by unfold zT;rw[if_pos (by show m-xf<2;omega)]
      have HHO:=Lib.hid hho
      clear hho
      go_wp2_with fail
      exact bodyPost_ret (v:= .tuple #[.int .i64 xp,.int .i64 1]) J2 rfl ⟨by rw[HAT.out,HHO.out],hxw.alloc hxw.size _⟩
     ·have g3d:decide (m<xf+2)=false:=by simpa using g3
      have hho:zT m (xp,xf,xl)=2:=by unfold zT;rw[if_neg (by show¬m-xf<2;omega)]
      have HHO:=Lib.hid hho
      clear hho
      go_wp2_with fail
      exact bodyPost_ret (v:= .tuple #[.int .i64 xp,.int .i64 2]) J2 rfl ⟨by rw[HAT.out,HHO.out],hxw.alloc hxw.size _⟩
    ·have g2d:decide (m<xf+xl)=false:=by simpa using g2
     exact aeD
   ·have g1d:decide (xf≤m)=false:=by simpa using g1
    exact aeD
  ·obtain rfl:i=l.length:=by omega
   have HAT:=Lib.hid (show LB l m=(-1,0) by
    unfold LB
    rw[show l.find? (vZ m)=none from by
     rw[List.find?_eq_none]
     intro x hx
     obtain⟨j,hj,he⟩:=List.mem_iff_getElem.1 hx
     rw[LJ.out j x hj BN]
     simp])
   go_wp2_with fail
   exact bodyPost_ret (v:= .tuple #[.int .i64 (-1),.int .i64 0]) J2 rfl ⟨EP,hxw⟩
end Go.Proofs.YtgmodehldmahiaaGreatDoor.Plan
namespace Go.Proofs.YtgmodehldmahiaaGreatDoor.Plan
open Go Go.RowKit Go.Tm
theorem N8{p:iE}{sched:Int}(h:There p sched):Xa p.frame=p.frame∧1≤p.frame∧p.frame≤4096:=
 ⟨by have:=h.1.FE;unfold Xa;rw[if_neg ah],h.1.FE,h.1.uy⟩
theorem Vf(pv wv cv:Value)(p:iE)(sched t:Int)(w:World)(hp:gq w pv wv cv p)(ht:0≤t)(ht2:t≤18446744073709551615):
  Calls Tryz.prog 16 #[wC pv wv cv p,.int .i64 sched,.int .u64 t] w fun e w'=>e=.returned (.tuple #[.int .i64 (qF p sched t).1,.int .i64 (qF p sched t).2])∧Below w.heap.size w w':=by
 have HP:=Lib.hid hp
 have KT:=Lib.hid (fun W (h:gq W pv wv cv p)=>I7 pv wv cv p sched W h)
 have KY:=Lib.hid (fun W (h:gq W pv wv cv p)=>La pv wv cv p sched (OO p.frame t) W h)
 unfold qF
 obtain⟨a1,k1,a2,k2,a3,k3,rfl,rfl,rfl,hl1,hl2,hl3⟩:=hp.shape
 clear hp
 by_cases hth:There p sched
 case neg=>
  rw[show uV p sched=false by rw[Bool.eq_false_iff];exact fun h=>hth ((rY p sched).1 h)] at KT
  rw[qc hth,show LB [] (OO p.frame t)=(-1,0) from rfl]
  go_enter Tryz.func16,Tryz.ntmps16
  go_wp2_with fail
  have hbx0:=aC.new w (#[.slice a1 p.parts.length k1,.int .i64 p.frame,.slice a2 p.wins.length k2,.slice a3 p.chans.length k3]:Array Value) 26
  have hx0:Below w.heap.size w (w.alloc (.cells #[.slice a1 p.parts.length k1,.int .i64 p.frame,.slice a2 p.wins.length k2,.slice a3 p.chans.length k3] 26)):=(Below.refl _ _).alloc (Nat.le_refl _) _
  generalize hW0:w.alloc (.cells #[.slice a1 p.parts.length k1,.int .i64 p.frame,.slice a2 p.wins.length k2,.slice a3 p.chans.length k3] 26)=w0 at*
  clear hW0
  with_reducible refine(KT.out _ (HP.out.below hx0)).mono ?_
  rintro e w1 ⟨rfl,hb⟩
  have hx1:=hx0.trans (hb.mono hx0.size)
  have Eu:=hbx0.below hb hbx0.lt
  clear hb
  obtain⟨c1,f1,l1,n1,m1⟩:=Eu.rules
  go_wp2_with fail
  exact bodyPost_ret (v:= .tuple #[.int .i64 (-1),.int .i64 0]) (by simp[results,Tryz.results16,go_sem]) rfl ⟨rfl,hx1⟩
 rw[(rY p sched).2 hth] at KT
 obtain⟨hfm,hf1,hf2⟩:=N8 hth
 have hcy:OO p.frame t=t%p.frame:=by unfold OO;rw[hfm]
 rw[hcy] at KY⊢
 have hm0:0≤t%p.frame:=Int.emod_nonneg t ah
 have hm1:t%p.frame<p.frame:=Int.emod_lt_of_pos t ah
 have hw1:IntKind.u64.wrap p.frame=p.frame:=pE ah ah
 have hz:(p.frame==0)=false:=aR
 have hw3:IntKind.i64.wrap (t%p.frame)=t%p.frame:=IntWalk.i64_in _ ah
 have hwm:IntKind.u64.wrap (t%p.frame)=t%p.frame:=pE ah ah
 have hm:t.tmod p.frame=t%p.frame:=Int.tmod_eq_emod_of_nonneg ht
 generalize LB (nE p sched) (t%p.frame)=ax at*
 obtain⟨a,x⟩:=ax
 dsimp only at KY⊢
 clear hfm hcy hth
 go_enter Tryz.func16,Tryz.ntmps16
 go_wp2_with fail
 have hbx0:=aC.new w (#[.slice a1 p.parts.length k1,.int .i64 p.frame,.slice a2 p.wins.length k2,.slice a3 p.chans.length k3]:Array Value) 26
 have hx0:Below w.heap.size w (w.alloc (.cells #[.slice a1 p.parts.length k1,.int .i64 p.frame,.slice a2 p.wins.length k2,.slice a3 p.chans.length k3] 26)):=(Below.refl _ _).alloc (Nat.le_refl _) _
 generalize hW0:w.alloc (.cells #[.slice a1 p.parts.length k1,.int .i64 p.frame,.slice a2 p.wins.length k2,.slice a3 p.chans.length k3] 26)=w0 at*
 clear hW0
 with_reducible refine(KT.out _ (HP.out.below hx0)).mono ?_
 rintro e w1 ⟨rfl,hb⟩
 have hx1:=hx0.trans (hb.mono hx0.size)
 have Eu:=hbx0.below hb hbx0.lt
 clear hb
 obtain⟨c1,f1,l1,n1,m1⟩:=Eu.rules
 have OM:∀dd os,Calls Tryz.prog 41 #[.agg #[.slice a1 p.parts.length k1,.int .i64 p.frame,.slice a2 p.wins.length k2,.slice a3 p.chans.length k3],.int .i64 sched,.int .i64 (t%p.frame)] (Go.Sort.grow (redrawn w1 dd) os) fun e w''=>e=.returned (.tuple #[.int .i64 a,.int .i64 x])∧∃p:Regrown,w''=Go.Sort.grow (redrawn w1 p.d) p.os:=fun dd os=>Calls.regrown_of (KY.out _ (HP.out.below (hx1.trans ((below_regrown w1 dd os).mono hx1.size))))
 have C1:=Lib.hid OM
 clear OM
 have k0:=Eu.qL
 go_wp2_with fail
 ((refine wp_region_quiet_below aj aj ?_);(repeat(go_big_quiet_step ((go_at_call 41;with_reducible exact C1.out _ _))));(refine wpQuiet_nil ?_);(intro _ hw');(obtain⟨⟨dq,osq⟩,hw''⟩:=hw');(subst hw'');(have oZ:=below_regrown w1 dq osq);(generalize Go.Sort.grow (redrawn w1 dq) osq=w7 at*);(have Io:=oZ.size))
 clear k0
 go_wp2_with fail
 exact bodyPost_ret (v:= .tuple #[.int .i64 a,.int .i64 x]) (by simp[results,Tryz.results16,go_sem]) rfl ⟨rfl,hx1.trans (oZ.mono hx1.size)⟩
end Go.Proofs.YtgmodehldmahiaaGreatDoor.Plan
