/- Part 12 of 53 of the proof of topAlone_and_topApart. Conditions: see each. -/
import Derived.Test.YtgmodehldmahiaaGreatDoorB01
import Derived.Test.YtgmodehldmahiaaGreatDoorB11
set_option linter.unusedVariables false
set_option linter.unusedSimpArgs false
set_option maxRecDepth 8192
set_option maxHeartbeats 40000000
namespace Go.Proofs.YtgmodehldmahiaaGreatDoor.bF
open Go Go.RowKit Go.Tm
attribute [local go_sem] Oper.semAt_some
open Classical in
noncomputable def uX(p:jE)(sched:Int):List Wn:=if gJ p∧0≤sched∧sched<p.wins.length then(p.wins[sched.toNat]?).getD [] else[]
theorem EZ{p:jE}{sched:Int}{l:List Wn}(hp:gJ p)(h0:0≤sched)(h1:sched<p.wins.length)(hl:p.wins[sched.toNat]?=some l):uX p sched=l:=by
 unfold uX;rw[if_pos ⟨hp,h0,h1⟩,hl];rfl
theorem Ac{p:jE}{sched:Int}(h:¬(gJ p∧0≤sched∧sched<p.wins.length)):uX p sched=[]:=by unfold uX;rw[if_neg h]
def WOk(x:Wn):Prop:=0≤x.1∧x.1<4∧0≤x.2.1∧2<x.2.2∧x.2.1+x.2.2≤4096
abbrev Wa:={x:Wn//WOk x}
theorem aad{n:Nat}{frame:Int}:∀{l:List Wn} {b:Int},Gs n frame b l→∀x∈l,uf n frame x:=by
 intro l
 induction l with
 |nil=>intro b _ x hx;cases hx
 |cons y r ih=>
  intro b h x hx
  rcases List.mem_cons.1 hx with rfl|hx
  ·exact h.1
  ·exact ih h.2.2 x hx
theorem Ny{p:jE}{sched:Int}:∀x∈uX p sched,gJ p∧uf p.parts.length p.frame x:=by
 intro x hx
 by_cases h:gJ p∧0≤sched∧sched<p.wins.length
 ·have hl:=List.getElem?_eq_getElem (l:=p.wins) (show sched.toNat<p.wins.length by omega)
  rw[EZ h.1 h.2.1 h.2.2 hl] at hx
  exact⟨h.1,aad (h.1.rows _ (List.getElem_mem _)) x hx⟩
 ·rw[Ac h] at hx;cases hx
theorem Cr{p:jE}{sched:Int}:∀x∈uX p sched,WOk x:=by
 intro x hx
 obtain⟨hp,h⟩:=Ny x hx
 have:=hp.Fv
 have:=hp.zX
 unfold uf at h
 unfold WOk
 omega
theorem RS{q:Wn→Prop}:∀{l:List Wn},(∀x∈l,q x)→∃la:List {x:Wn//q x},la.map (·.1)=l:=by
 intro l
 induction l with
 |nil=>intro _;exact⟨[],rfl⟩
 |cons x r ih=>
  intro h
  obtain⟨la,he⟩:=ih fun y hy=>h y (List.mem_cons_of_mem _ hy)
  exact⟨⟨x,h x aI⟩::la,by simp[he]⟩
theorem RU(pv wv cv:Value)(p:jE)(sched:Int)(w:World):Calls Tryz.prog 60 #[I6 pv wv cv p,.int .i64 sched] w fun e w'=>
  e=.returned (.func (.func 77) #[] #[.pointer (some ⟨w.heap.size,0,none⟩),.pointer (some ⟨w.heap.size+1,0,none⟩)])∧
   w'=(w.alloc (.cells #[pv,.int .i64 p.frame,wv,cv] 26)).alloc (.cells #[.int .i64 sched] 3):=by
 go_enter Tryz.func60,Tryz.ntmps60
 go_wp2_with fail
 go_ret
 exact⟨aI,rfl⟩
set_option maxRecDepth 100000 in
set_option maxHeartbeats 8000000 in
theorem J_(n B1 B2:Nat)(pv wv cv:Value)(p:jE)(sched:Int)(za:List Wa)(w:World)(hn:1≤n)(hz:za.map (·.1)=uX p sched)(hp:jf w pv wv cv p)
  (h1:aD w B1 #[pv,.int .i64 p.frame,wv,cv] 26)(h2:aD w B2 #[.int .i64 sched] 3):
  SeqStopsK Fence.wide n Tryz.prog 77 #[.pointer (some ⟨B1,0,none⟩),.pointer (some ⟨B2,0,none⟩)] (fun x:Wa=>#[QF x.1]) (Below w.heap.size) (fun ys=>ys=za) (fun pre=>pre<+:za) za.length w:=by
 intro l' J Jx W hW hJ hJx hY h0
 have HP:=ah hp
 have FW:=ah h1
 have Ao:=ah h2
 have HJ:=ah hJ
 have HY:=ah hY
 have HZ:=ah hz
 obtain⟨a1,k1,a2,k2,a3,k3,rfl,rfl,rfl,jO,hl2,qM⟩:=hp.shape
 have agj:=aD.below FW.out hW h1.lt
 have Zq:=aD.below Ao.out hW h2.lt
 have HCK:=ah (Fx _ _ _ p W (HP.out.below hW))
 obtain⟨c1,f1,l1,n1,m1⟩:=agj.rules
 clear h1 h2 hp hJ hY hz
 ((refine callsIn_of_wp Tryz.func77 rfl trivial ?_ rfl);simp only[Tryz.ntmps77,List.size_toArray,List.length_cons,List.length_nil,Nat.reduceAdd,Nat.reduceSub,Array.replicate_succ,Array.replicate_zero,List.push_toArray,List.append_toArray,List.nil_append,List.cons_append])
 gi_wp2
 refine⟨trivial,callsIn_wide.2 (HCK.out.mono ?_)⟩
 rintro e w1 ⟨⟨k,rfl,hk⟩,hb1⟩
 have hx1:Below w.heap.size w w1:=hW.trans (hb1.mono hW.size)
 have HJ1:=ah (HJ.out _ W w1 none h0 (aA hb1 none) (fun r e=>by cases e))
 have ak7:=ah (agj.below hb1 agj.lt)
 have ab8:=ah (Zq.below hb1 Zq.lt)
 clear h0 c1 f1 l1 n1 m1 agj Zq
 by_cases hpk:gJ p
 case neg=>
  have MU:(k !=0)=true:=by simp;exact fun e=>hpk (hk.1 e)
  have hne:za=[]:=by have:=HZ.out;rw[Ac (fun h=>hpk h.1)] at this;simpa using this
  clear hk
  gi_wp2
  refine bodyPost_ret (results_none rfl _ _ _) rfl ?_
  exact⟨⟨_,rfl⟩,.inl ⟨_,hne.symm,HJ1.out⟩⟩
 obtain rfl:k=0:=hk.2 hpk
 clear hk
 obtain⟨c1,f1,l1,n1,m1⟩:=ak7.out.rules
 obtain⟨c2,f2,l2,n2,m2⟩:=ab8.out.rules
 by_cases hs0:sched<0
 case pos=>
  have ao9:decide (sched<0)=true:=by simpa using hs0
  exact aiK
 have ao9:decide (sched<0)=false:=by simpa using hs0
 by_cases hs1:(p.wins.length:Int)≤sched
 case pos=>
  have ao6:decide ((p.wins.length:Int)≤sched)=true:=by simpa using hs1
  exact aiK
 have ao6:decide ((p.wins.length:Int)≤sched)=false:=by simpa using hs1
 obtain⟨s,rfl⟩:∃s:Nat,sched=s:=⟨sched.toNat,aj⟩
 have asb:decide (p.wins.length≤s)=false:=aV
 obtain⟨l,hl⟩:∃l,p.wins[s]?=some l:=⟨_,List.getElem?_eq_getElem aj⟩
 have hzl:za.map (·.1)=l:=by rw[HZ.out];exact EZ hpk aj aj OP
 have aob:za.length=l.length:=by rw[←hzl];simp
 obtain⟨b,off,a5,c5,rfl,hb,ad7,Ug,hsl⟩:=vB.at HP.out.wins hl
 have hcell:=(hx1.cell (p:=⟨b,off+s,none⟩) hb).trans ad7
 have bW:b<w1.heap.size:=Nat.lt_of_lt_of_le hb hx1.size
 have HSL:=ah hsl
 have HZL:=ah hzl
 clear hl hsl hzl ad7
 gi_wp2
 clear c1 f1 l1 n1 m1 c2 f2 l2 n2 m2 hcell
 gi_loopw [26] (fun t wr=>∃k:Nat,k≤l.length∧t=.int .i64 k∧Below w.heap.size w wr∧J (za.take k) wr) (fun t _=>l.length-(intOf t).toNat)
 case atStart=>exact⟨0,Nat.zero_le _,rfl,hx1,HJ1.out⟩
 case round=>
  obtain⟨k,hk,rfl,bZ,hJs⟩:=hrel
  have HJS:=ah hJs
  have Bj:=bZ.size
  clear hJs
  by_cases hlt:k<l.length
  ·obtain⟨x,hx⟩:∃x,za[k]?=some x:=⟨_,List.getElem?_eq_getElem aj⟩
   have hxl:l[k]?=some x.1:=by rw[←HZL.out];simp[hx]
   obtain⟨b2,nU,rfl,hb2,q0,q1,q2⟩:=Sl.wn (HSL.out.below bZ) hxl
   have HST:=ah (eO hx)
   have xS:=ah (show za.take (k+1)<+:za from List.take_prefix _ _)
   have hwr:IntKind.i64.wrap ((k:Int)+1)=k+1:=IntWalk.i64_in _ aj
   have htl:(za.take k).length<za.length:=zS
   have hbz:Below wr.heap.size wr (wr.alloc (.cells #[.int .i64 x.1.1,.int .i64 x.1.2.1,.int .i64 x.1.2.2] 76)):=(Below.refl _ _).alloc (Nat.le_refl _) _
   have HJ2:=ah (HJ.out _ wr _ none HJS.out (aA hbz none) (fun r e=>by cases e))
   obtain⟨fn,tmps,assign,body,hy,hR⟩:=HY.out _ x _ HJ2.out htl
   have HR:=ah hR
   clear hx hxl hR
   gi_wp2
   refine HR.out.mono ?_
   rintro e w3 (⟨rfl,hJ3,hk3⟩|⟨rfl,abV⟩)
   ·gi_wp2
    go_roundw
    case rel=>exact⟨k+1,aj,dn,(bZ.alloc Bj _).trans hk3,by rw[HST.out];exact hJ3⟩
    case measure=>simp[intOf];omega
   ·gi_wp2
    refine bodyPost_ret (results_none rfl _ _ _) rfl ?_
    exact⟨⟨_,rfl⟩,.inr ⟨_,by rw[←HST.out];exact xS.out,abV⟩⟩
  ·obtain rfl:k=l.length:=by omega
   gi_wp2
   go_end0
   exact⟨⟨_,rfl⟩,.inl ⟨_,rfl,by rw[←aob,List.take_length] at HJS;exact HJS.out⟩⟩
end Go.Proofs.YtgmodehldmahiaaGreatDoor.bF
namespace Go.Proofs.YtgmodehldmahiaaGreatDoor.bF
open Go Go.RowKit Go.Tm
attribute [local go_sem] Oper.semAt_some
def frm(f:Int):Int:=if f<1 then 1 else f
theorem ag_(f:Int):1≤frm f:=by unfold frm;split<;>omega
def cyc(f t:Int):Int:=t%frm f
theorem NS{f t:Int}(h:0≤t)(hf:f≤9223372036854775807):0≤cyc f t∧cyc f t<9223372036854775807:=by
 have h1:=ag_ f
 have h2:frm f≤9223372036854775807:=by unfold frm;split<;>omega
 have:=Int.emod_nonneg t (show frm f≠0 by omega)
 have:=Int.emod_lt_of_pos t (show 0<frm f by omega)
 unfold cyc
 omega
theorem E8{x:Int}(h0:0≤x)(h1:x≤18446744073709551615):IntKind.u64.wrap x=x:=by rw[IntKind.wrap_u64];omega
theorem AQ(pv wv cv:Value)(p:jE)(t:Int)(w:World)(ht:0≤t)(hf:p.frame≤9223372036854775807):
  Calls Tryz.prog 59 #[I6 pv wv cv p,.int .u64 t] w fun e w'=>e=.returned (.int .i64 (cyc p.frame t))∧Below w.heap.size w w':=by
 have hc:=NS ht hf
 unfold cyc frm at*
 by_cases h:p.frame<1
 ·rw[if_pos h] at hc⊢
  have hq:t%1=0:=Int.emod_one t
  go_enter Tryz.func59,Tryz.ntmps59
  exact Nh
 ·rw[if_neg h] at hc⊢
  have hw1:IntKind.u64.wrap p.frame=p.frame:=E8 aj aj
  have hw2:p.frame%18446744073709551616=p.frame:=aj
  have hz:(p.frame==0)=false:=aV
  have hw3:IntKind.i64.wrap (t%p.frame)=t%p.frame:=IntWalk.i64_in _ aj
  have hm:t.tmod p.frame=t%p.frame:=Int.tmod_eq_emod_of_nonneg ht
  go_enter Tryz.func59,Tryz.ntmps59
  exact Nh
theorem GA{B:Nat}{W W':World}(h:Below W.heap.size W W'):KeepsFrom B W W':=KeepsFrom.of_grownBy (aA h none) aI
theorem gN{β:Type}(B:Nat)(t:TypeId)(f:β→Array Value):Own (fun s W=>aD W B (f s) t):=fun s X Y row hs hg hrow=>
 hs.grown hg (fun e'=>acp)
end Go.Proofs.YtgmodehldmahiaaGreatDoor.bF
namespace Go.Proofs.YtgmodehldmahiaaGreatDoor.bF
open Go Go.RowKit Go.Tm
def Me(m:Int)(x:Wn):Bool:=decide (x.2.1≤m∧m<x.2.1+x.2.2)
def Oy(m:Int)(x:Wn):Int:=if m-x.2.1<2 then 1 else 2
def atL(l:List Wn)(m:Int):Int×Int:=match l.find? (Me m) with|none=>(-1,0)|some x=>(x.1,Oy m x)
noncomputable def Bn(p:jE)(sched t:Int):Int×Int:=atL (uX p sched) (cyc p.frame t)
end Go.Proofs.YtgmodehldmahiaaGreatDoor.bF
namespace Go.Proofs.YtgmodehldmahiaaGreatDoor.bF
open Go Go.RowKit Go.Tm
attribute [local go_sem] Oper.semAt_some
def qD(q:Wn→Bool)(pre:List Wa):Prop:=∀x∈pre,q x.1=false
theorem qD.snoc{q:Wn→Bool}{pre:List Wa}{x:Wa}(h:qD q pre)(hx:q x.1=false):qD q (pre++[x]):=by
 intro y hy
 rcases List.mem_append.1 hy with hy|hy
 ·exact h y hy
 ·obtain rfl:y=x:=by simpa using hy
  exact hx
theorem qD.none{q:Wn→Bool}{za:List Wa}(h:qD q za):(za.map (·.1)).find? q=none:=by
 rw[List.find?_eq_none]
 intro y hy
 obtain⟨x,hx,rfl⟩:=List.mem_map.1 hy
 rw[h x hx];simp
theorem qD.some{q:Wn→Bool}{ys:List Wa}{x:Wa}{za:List Wa}(h:qD q ys)(hx:q x.1=true)(hp:ys++[x]<+:za):(za.map (·.1)).find? q=some x.1:=by
 obtain⟨r,rfl⟩:=hp
 rw[List.append_assoc,List.map_append,List.find?_append,h.none]
 simp[hx]
def RI(m:Int)(B1 B2:Nat)(w:World)(pre:List Wa)(W:World):Prop:=
 ∃(x:Wa) (ys:List Wa),pre=ys++[x]∧qD (Me m) ys∧Me m x.1=true∧(aD W B1 #[.int .i64 x.1.1] 3∧aD W B2 #[.int .i64 (Oy m x.1)] 3)∧Below w.heap.size w W
theorem Fj{m:Int}{B1 B2:Nat}{w:World}{B:Nat}(hB:w.heap.size≤B):OwnFrom B (RI m B1 B2 w):=by
 intro pre X Y row hs hg hr
 obtain⟨x,ys,h1,h2,h3,⟨h4,h5⟩,h6⟩:=hs
 exact⟨x,ys,h1,h2,h3,⟨Own.from (gN (β:=Unit) _ 3 (fun _=>#[.int .i64 x.1.1])) _ () X Y row h4 hg hr,Own.from (gN (β:=Unit) _ 3 (fun _=>#[.int .i64 (Oy m x.1)])) _ () X Y row h5 hg hr⟩,ownFrom_below (β:=Unit) (Nat.le_refl _) hB () X Y row h6 hg hr⟩
set_option maxRecDepth 100000 in
set_option maxHeartbeats 8000000 in
theorem Py(pv wv cv:Value)(p:jE)(sched t:Int)(w:World)(hp:jf w pv wv cv p)(ht:0≤t)(hf:p.frame≤9223372036854775807):
  Calls Tryz.prog 33 #[I6 pv wv cv p,.int .i64 sched,.int .u64 t] w fun e w'=>e=.returned (.tuple #[.int .i64 (Bn p sched t).1,.int .i64 (Bn p sched t).2])∧Below w.heap.size w w':=by
 have HP:=ah hp
 have QS:=ah (fun W=>AQ pv wv cv p t W ht hf)
 have hcr:=NS ht hf
 obtain⟨za,hz⟩:=RS (l:=uX p sched) Cr
 have HZ:=ah hz
 unfold Bn
 rw[←hz]
 obtain⟨a1,k1,a2,k2,a3,k3,rfl,rfl,rfl,jO,hl2,qM⟩:=hp.shape
 generalize cyc p.frame t=m at*
 clear hp hz
 refine(callsIn_wide (n:=3)).1 ?_
 ((refine callsIn_of_wp_marks Tryz.func33 rfl trivial ?_ rfl);simp only[Tryz.ntmps33,List.size_toArray,List.length_cons,List.length_nil,Nat.reduceAdd,Nat.reduceSub,Array.replicate_succ,Array.replicate_zero,List.push_toArray,List.append_toArray,List.nil_append,List.cons_append])
 gi_wp2
 refine⟨trivial,callsIn_wide.2 ((QS.out _).mono ?_)⟩
 rintro e w1 ⟨rfl,hb1⟩
 have oq:aD (((w.alloc (.cells #[.slice a1 p.parts.length k1,.int .i64 p.frame,.slice a2 p.wins.length k2,.slice a3 p.chans.length k3] 26)).alloc (.cells #[.int .i64 0] 3)).alloc (.cells #[.int .i64 0] 3)) w.heap.size #[.slice a1 p.parts.length k1,.int .i64 p.frame,.slice a2 p.wins.length k2,.slice a3 p.chans.length k3] 26:=((aD.new _ _ _).alloc _).alloc _
 have gD:aD (((w.alloc (.cells #[.slice a1 p.parts.length k1,.int .i64 p.frame,.slice a2 p.wins.length k2,.slice a3 p.chans.length k3] 26)).alloc (.cells #[.int .i64 0] 3)).alloc (.cells #[.int .i64 0] 3)) (w.heap.size+1) #[.int .i64 0] 3:=(aD.p9 _ _ _ aI).alloc _
 have mh:aD (((w.alloc (.cells #[.slice a1 p.parts.length k1,.int .i64 p.frame,.slice a2 p.wins.length k2,.slice a3 p.chans.length k3] 26)).alloc (.cells #[.int .i64 0] 3)).alloc (.cells #[.int .i64 0] 3)) (w.heap.size+1+1) #[.int .i64 0] 3:=aD.p9 _ _ _ aI
 have hx0:Below w.heap.size w (((w.alloc (.cells #[.slice a1 p.parts.length k1,.int .i64 p.frame,.slice a2 p.wins.length k2,.slice a3 p.chans.length k3] 26)).alloc (.cells #[.int .i64 0] 3)).alloc (.cells #[.int .i64 0] 3)):=(((Below.refl _ _).alloc (Nat.le_refl _) _).alloc aI _).alloc aV _
 have hx1:Below w.heap.size w w1:=hx0.trans (hb1.mono hx0.size)
 have hz1:=hb1.size
 simp only[World.size_alloc] at hz1
 have FM:=(oq.below hb1 oq.lt).alloc (.cells #[.int .i64 m] 3)
 have hr1:=(gD.below hb1 gD.lt).alloc (.cells #[.int .i64 m] 3)
 have hr2:=(mh.below hb1 mh.lt).alloc (.cells #[.int .i64 m] 3)
 have Qw:=aD.new w1 (#[.int .i64 m]:Array Value) 3
 have hx2:Below w.heap.size w (w1.alloc (.cells #[.int .i64 m] 3)):=hx1.alloc hx1.size _
 obtain⟨c0,f0,l0,n0,m0⟩:=FM.rules
 clear oq gD mh hb1 hx0
 gi_wp2
 refine⟨trivial,callsIn_wide.2 ((RU _ _ _ _ _ _).mono ?_)⟩
 rintro e w2 ⟨rfl,hw2⟩
 have amA:(w1.alloc (.cells #[.int .i64 m] 3)).heap.size=w1.heap.size+1:=aI
 generalize hW1:w1.alloc (.cells #[.int .i64 m] 3)=w1b at*
 clear hW1 c0 f0 l0 n0 m0 FM
 have hb2:Below w1b.heap.size w1b w2:=Jd
 have hz2:w2.heap.size=w1b.heap.size+1+1:=by subst hw2;simp
 have hs1:aD w2 w1b.heap.size #[.slice a1 p.parts.length k1,.int .i64 p.frame,.slice a2 p.wins.length k2,.slice a3 p.chans.length k3] 26:=Pm
 have hs2:aD w2 (w1b.heap.size+1) #[.int .i64 sched] 3:=Jp
 have hx3:Below w.heap.size w w2:=hx2.trans (hb2.mono hx2.size)
 have Ox:=hr1.below hb2 hr1.lt
 have Iy:=hr2.below hb2 hr2.lt
 have amM:=Qw.below hb2 Qw.lt
 have fJ:Body Tryz.prog 77:=gq Tryz.func77 ay ay
 unfold Body at fJ
 clear hw2 hr1 hr2 Qw
 rw[amA] at hs1 hs2
 have Bh:=hx3.size
 gi_wp2
 clear amA hz2
 refine wpIn_rangeFunc_ownH rfl aj (gf:=77) (lb:=#[.pointer (some ⟨w1.heap.size+1,0,none⟩),.pointer (some ⟨w1.heap.size+1+1,0,none⟩)]) rfl trivial fJ
  (J_ 2 _ _ _ _ _ p sched za w2 aj HZ.out (HP.out.below hx3) hs1 hs2) belowK_t (belowK_b (Nat.le_refl _)) (Below.refl _ _) (fun _=>rfl)
  (fun pre W=>qD (Me m) pre∧Below w2.heap.size w2 W)
  (fun c pre W=>c=.ret∧RI m (w.heap.size+1) (w.heap.size+1+1) w pre W)
  (OwnFrom.and (ownFrom_pure _ _) (ownFrom_below (Nat.le_refl _) (Nat.le_refl _)))
  (fun c=>OwnFrom.and (ownFrom_pure _ (fun _=>c=.ret)) (Fj hx3.size))
  ⟨OY,Below.refl _ _⟩
  (fun x a' W=>∃Bx,aD W Bx #[.int .i64 x.1.1,.int .i64 x.1.2.1,.int .i64 x.1.2.2] 76∧
   a'={tmps:=#[.agg #[.slice a1 p.parts.length k1,.int .i64 p.frame,.slice a2 p.wins.length k2,.slice a3 p.chans.length k3],.int .i64 sched,.int .u64 t,.pointer (some ⟨w.heap.size,0,none⟩),undef,undef,.pointer (some ⟨w.heap.size+1,0,none⟩),.pointer (some ⟨w.heap.size+1+1,0,none⟩),.pointer (some ⟨w1.heap.size,0,none⟩),.pointer (some ⟨Bx,0,none⟩),undef,.agg #[.slice a1 p.parts.length k1,.int .i64 p.frame,.slice a2 p.wins.length k2,.slice a3 p.chans.length k3],.int .u64 t,.int .i64 m,.agg #[.slice a1 p.parts.length k1,.int .i64 p.frame,.slice a2 p.wins.length k2,.slice a3 p.chans.length k3],.int .i64 sched,.func (.func 77) #[] #[.pointer (some ⟨w1.heap.size+1,0,none⟩),.pointer (some ⟨w1.heap.size+1+1,0,none⟩)],QF x.1,undef,undef,undef,undef,undef,undef,undef,undef,undef,undef,undef,undef,undef,undef,undef,undef,undef,undef,undef,undef],defers:=[]})
  (fun x a' _ X Y row hs hg hr=>by
   obtain⟨Bx,hb,rfl⟩:=hs
   exact⟨Bx,Own.from (gN (β:=Unit) Bx 76 (fun _=>#[.int .i64 x.1.1,.int .i64 x.1.2.1,.int .i64 x.1.2.2])) _ () X Y row hb hg hr,rfl⟩) ?assign ?body ?done ?stop
 case assign=>
  rintro l pre x W K ⟨hno,hB⟩ hK
  gi_wp2
  exact acG
 case body=>
  rintro l pre x a' W hl ⟨r,hr⟩ ⟨hno,hB⟩ ⟨Bx,hb,rfl⟩ hlt
  obtain⟨⟨xp,xf,xl⟩,hxw⟩:=x
  have afX:=hxw
  unfold WOk at afX
  dsimp only at afX hb
  have apS:=amM.below hB amM.lt
  have EA:=Ox.below hB Ox.lt
  have zN:=Iy.below hB Iy.lt
  obtain⟨c1,f1,l1,n1,m1⟩:=apS.rules
  obtain⟨c2,f2,l2,n2,m2⟩:=hb.rules
  obtain⟨c3,f3,l3,n3,m3⟩:=EA.rules
  obtain⟨c4,f4,l4,n4,m4⟩:=zN.rules
  have hwr:IntKind.i64.wrap (m-xf)=m-xf:=IntWalk.i64_in _ aj
  have hxB:Below w.heap.size w W:=hx3.trans (hB.mono hx3.size)
  have Uo:=ah hno
  have HXW:=ah afX
  have BA:=EA.set 0 (.int .i64 xp)
  have XU:=zN.other ⟨w.heap.size+1,0,none⟩ (.int .i64 xp) ahJ
  clear hno afX
  by_cases g1:m<xf
  ·have g1d:decide (m<xf)=true:=by simpa using g1
   have g1e:decide (m-xf<0)=true:=aV
   gi_wp2
   exact adE
  have g1d:decide (m<xf)=false:=by simpa using g1
  have g1e:decide (m-xf<0)=false:=aV
  by_cases g2:xl≤m-xf
  ·have g2d:decide (xl≤m-xf)=true:=by simpa using g2
   gi_wp2
   exact adE
  have g2d:decide (xl≤m-xf)=false:=by simpa using g2
  have HG:=ah (And.intro g1 g2)
  by_cases g3:m-xf<2
  ·have g3d:decide (m-xf<2)=true:=by simpa using g3
   gi_wp2
   refine⟨((KeepsOthers.setCell _ _ _).from _).trans ((KeepsOthers.setCell _ _ _).from _),rfl,⟨(xp,xf,xl),hxw⟩,pre,rfl,Uo.out,?_,⟨?_,?_⟩,?_⟩
   ·have:=HG.out;unfold Me;simp;omega
   ·exact adM
   ·have:=XU.set 0 (.int .i64 1)
    unfold Oy
    rw[if_pos (show m-xf<2 by omega)]
    exact this
   ·exact acI
  ·have g3d:decide (m-xf<2)=false:=by simpa using g3
   gi_wp2
   refine⟨((KeepsOthers.setCell _ _ _).from _).trans ((KeepsOthers.setCell _ _ _).from _),rfl,⟨(xp,xf,xl),hxw⟩,pre,rfl,Uo.out,?_,⟨?_,?_⟩,?_⟩
   ·have:=HG.out;unfold Me;simp;omega
   ·exact adM
   ·have:=XU.set 0 (.int .i64 2)
    unfold Oy
    rw[if_neg (show¬m-xf<2 by omega)]
    exact this
   ·exact acI
 case done=>
  rintro D ys W hD rfl ⟨hno,hB⟩ hK
  have EA:=Ox.below hB Ox.lt
  have zN:=Iy.below hB Iy.lt
  obtain⟨c3,f3,l3,n3,m3⟩:=EA.rules
  obtain⟨c4,f4,l4,n4,m4⟩:=zN.rules
  have hxB:Below w.heap.size w W:=hx3.trans (hB.mono hx3.size)
  have hat:atL (ys.map (·.1)) m=(-1,0):=by unfold atL;rw[hno.none]
  have Hw:=ah hat
  have BA:=(EA.set 0 (.int .i64 (-1))).other ⟨w.heap.size+1+1,0,none⟩ (.int .i64 0) ahI
  have Ry:=(zN.other ⟨w.heap.size+1,0,none⟩ (.int .i64 (-1)) ahJ).set 0 (.int .i64 0)
  have Hw:=ah hat
  have QX:=Iy.lt
  have Bl:((W.setCell ⟨w.heap.size+1,0,none⟩ (.int .i64 (-1))).setCell ⟨w.heap.size+1+1,0,none⟩ (.int .i64 0)).heap[D]?=some (.deferred (some [])):=by
   rw[heap_setCell_other _ _ _ _ wT,heap_setCell_other _ _ _ _ (by show¬D=w.heap.size+1;omega)];exact hK
  clear hno hat
  gi_wp2
  rw[Hw.out]
  refine⟨aI,.inl ⟨_,_,rfl,run_takeDeferred Bl,?_⟩⟩
  have b1:=((Own.from (gN (β:=Unit) _ 3 (fun _=>_)) w2.heap.size).putObj (s:=()) (Obj.deferred none) BA hD Bl rfl).rules.1 0
  have b2:=((Own.from (gN (β:=Unit) _ 3 (fun _=>_)) w2.heap.size).putObj (s:=()) (Obj.deferred none) Ry hD Bl rfl).rules.1 0
  refine⟨.tuple #[.int .i64 (-1),.int .i64 0],adw,rfl,?_⟩
  refine Below.trans ?_ (belowK_b (w:=w2) hx3.size _ D _ _ hD Bl rfl rfl)
  exact acI
 case stop=>
  rintro D c pre W hD G5 ⟨rfl,x,ys,rfl,h2,h3,⟨h4,h5⟩,h6⟩ hK
  have hat:atL (za.map (·.1)) m=(x.1.1,Oy m x.1):=by unfold atL;rw[h2.some h3 G5]
  gi_wp2
  rw[hat]
  refine⟨aI,.inl ⟨_,_,rfl,run_takeDeferred hK,?_⟩⟩
  have b1:=((Own.from (gN (β:=Unit) _ 3 (fun _=>_)) w2.heap.size).putObj (s:=()) (Obj.deferred none) h4 hD hK rfl).rules.1 0
  have b2:=((Own.from (gN (β:=Unit) _ 3 (fun _=>_)) w2.heap.size).putObj (s:=()) (Obj.deferred none) h5 hD hK rfl).rules.1 0
  refine⟨.tuple #[.int .i64 x.1.1,.int .i64 (Oy m x.1)],adw,rfl,?_⟩
  exact acw
end Go.Proofs.YtgmodehldmahiaaGreatDoor.bF
namespace Go.Proofs.YtgmodehldmahiaaGreatDoor.bF
open Go Go.RowKit Go.Tm
attribute [local go_sem] Oper.semAt_some
def Rf(m:Int)(x:Wn):Bool:=decide (x.2.1=m)
noncomputable def yF(p:jE)(sched t:Int):Bool:=(uX p sched).any (Rf (cyc p.frame t))
def aec(m:Int)(B1:Nat)(w:World)(pre:List Wa)(W:World):Prop:=
 ∃(x:Wa) (ys:List Wa),pre=ys++[x]∧Rf m x.1=true∧aD W B1 #[.bool true] 4∧Below w.heap.size w W
theorem WS{m:Int}{B1:Nat}{w:World}{B:Nat}(hB:w.heap.size≤B):OwnFrom B (aec m B1 w):=by
 intro pre X Y row hs hg hr
 obtain⟨x,ys,h1,h3,h4,h6⟩:=hs
 exact⟨x,ys,h1,h3,Own.from (gN (β:=Unit) _ 4 (fun _=>#[.bool true])) _ () X Y row h4 hg hr,ownFrom_below (β:=Unit) (Nat.le_refl _) hB () X Y row h6 hg hr⟩
set_option maxRecDepth 100000 in
set_option maxHeartbeats 8000000 in
theorem Wp(pv wv cv:Value)(p:jE)(sched t:Int)(w:World)(hp:jf w pv wv cv p)(ht:0≤t)(hf:p.frame≤9223372036854775807):
  Calls Tryz.prog 34 #[I6 pv wv cv p,.int .i64 sched,.int .u64 t] w fun e w'=>e=.returned (.bool (yF p sched t))∧Below w.heap.size w w':=by
 have HP:=ah hp
 have QS:=ah (fun W=>AQ pv wv cv p t W ht hf)
 obtain⟨za,hz⟩:=RS (l:=uX p sched) Cr
 have HZ:=ah hz
 unfold yF
 rw[←hz]
 obtain⟨a1,k1,a2,k2,a3,k3,rfl,rfl,rfl,jO,hl2,qM⟩:=hp.shape
 generalize cyc p.frame t=m at*
 clear hp hz
 refine(callsIn_wide (n:=3)).1 ?_
 ((refine callsIn_of_wp_marks Tryz.func34 rfl trivial ?_ rfl);simp only[Tryz.ntmps34,List.size_toArray,List.length_cons,List.length_nil,Nat.reduceAdd,Nat.reduceSub,Array.replicate_succ,Array.replicate_zero,List.push_toArray,List.append_toArray,List.nil_append,List.cons_append])
 have oq:aD (((w.alloc (.cells #[.slice a1 p.parts.length k1,.int .i64 p.frame,.slice a2 p.wins.length k2,.slice a3 p.chans.length k3] 26)).alloc (.cells #[.int .u64 t] 32)).alloc (.cells #[.bool false] 4)) w.heap.size #[.slice a1 p.parts.length k1,.int .i64 p.frame,.slice a2 p.wins.length k2,.slice a3 p.chans.length k3] 26:=((aD.new _ _ _).alloc _).alloc _
 have gD:aD (((w.alloc (.cells #[.slice a1 p.parts.length k1,.int .i64 p.frame,.slice a2 p.wins.length k2,.slice a3 p.chans.length k3] 26)).alloc (.cells #[.int .u64 t] 32)).alloc (.cells #[.bool false] 4)) (w.heap.size+1) #[.int .u64 t] 32:=(aD.p9 _ _ _ aI).alloc _
 have mh:aD (((w.alloc (.cells #[.slice a1 p.parts.length k1,.int .i64 p.frame,.slice a2 p.wins.length k2,.slice a3 p.chans.length k3] 26)).alloc (.cells #[.int .u64 t] 32)).alloc (.cells #[.bool false] 4)) (w.heap.size+1+1) #[.bool false] 4:=aD.p9 _ _ _ aI
 have hx0:Below w.heap.size w (((w.alloc (.cells #[.slice a1 p.parts.length k1,.int .i64 p.frame,.slice a2 p.wins.length k2,.slice a3 p.chans.length k3] 26)).alloc (.cells #[.int .u64 t] 32)).alloc (.cells #[.bool false] 4)):=(((Below.refl _ _).alloc (Nat.le_refl _) _).alloc aI _).alloc aV _
 gi_wp2
 have hz0:(((w.alloc (.cells #[.slice a1 p.parts.length k1,.int .i64 p.frame,.slice a2 p.wins.length k2,.slice a3 p.chans.length k3] 26)).alloc (.cells #[.int .u64 t] 32)).alloc (.cells #[.bool false] 4)).heap.size=w.heap.size+1+1+1:=aI
 refine⟨trivial,callsIn_wide.2 ((RU _ _ _ _ _ _).mono ?_)⟩
 rintro e w2 ⟨rfl,hw2⟩
 generalize hW1:(((w.alloc (.cells #[.slice a1 p.parts.length k1,.int .i64 p.frame,.slice a2 p.wins.length k2,.slice a3 p.chans.length k3] 26)).alloc (.cells #[.int .u64 t] 32)).alloc (.cells #[.bool false] 4))=w1 at*
 clear hW1
 have hb2:Below w1.heap.size w1 w2:=Jd
 have hs1:aD w2 w1.heap.size #[.slice a1 p.parts.length k1,.int .i64 p.frame,.slice a2 p.wins.length k2,.slice a3 p.chans.length k3] 26:=Pm
 have hs2:aD w2 (w1.heap.size+1) #[.int .i64 sched] 3:=Jp
 have hx3:Below w.heap.size w w2:=hx0.trans (hb2.mono hx0.size)
 have N8:=oq.below hb2 oq.lt
 have hr1:=gD.below hb2 gD.lt
 have hr2:=mh.below hb2 mh.lt
 have fJ:Body Tryz.prog 77:=gq Tryz.func77 ay ay
 unfold Body at fJ
 clear hw2 oq gD mh
 rw[hz0] at hs1 hs2
 have Bh:=hx3.size
 gi_wp2
 clear hz0
 refine wpIn_rangeFunc_ownH rfl aj (gf:=77) (lb:=#[.pointer (some ⟨w.heap.size+1+1+1,0,none⟩),.pointer (some ⟨w.heap.size+1+1+1+1,0,none⟩)]) rfl trivial fJ
  (J_ 2 _ _ _ _ _ p sched za w2 aj HZ.out (HP.out.below hx3) hs1 hs2) belowK_t (belowK_b (Nat.le_refl _)) (Below.refl _ _) (fun _=>rfl)
  (fun pre W=>qD (Rf m) pre∧Below w2.heap.size w2 W)
  (fun c pre W=>c=.ret∧aec m (w.heap.size+1+1) w pre W)
  (OwnFrom.and (ownFrom_pure _ _) (ownFrom_below (Nat.le_refl _) (Nat.le_refl _)))
  (fun c=>OwnFrom.and (ownFrom_pure _ (fun _=>c=.ret)) (WS hx3.size))
  ⟨OY,Below.refl _ _⟩
  (fun x a' W=>∃Bx,aD W Bx #[.int .i64 x.1.1,.int .i64 x.1.2.1,.int .i64 x.1.2.2] 76∧
   a'={tmps:=#[.agg #[.slice a1 p.parts.length k1,.int .i64 p.frame,.slice a2 p.wins.length k2,.slice a3 p.chans.length k3],.int .i64 sched,.int .u64 t,.pointer (some ⟨w.heap.size,0,none⟩),undef,.pointer (some ⟨w.heap.size+1,0,none⟩),.pointer (some ⟨w.heap.size+1+1,0,none⟩),.pointer (some ⟨Bx,0,none⟩),.agg #[.slice a1 p.parts.length k1,.int .i64 p.frame,.slice a2 p.wins.length k2,.slice a3 p.chans.length k3],.int .i64 sched,.func (.func 77) #[] #[.pointer (some ⟨w.heap.size+1+1+1,0,none⟩),.pointer (some ⟨w.heap.size+1+1+1+1,0,none⟩)],QF x.1,undef,undef,undef,undef,undef,undef],defers:=[]})
  (fun x a' _ X Y row hs hg hr=>by
   obtain⟨Bx,hb,rfl⟩:=hs
   exact⟨Bx,Own.from (gN (β:=Unit) Bx 76 (fun _=>#[.int .i64 x.1.1,.int .i64 x.1.2.1,.int .i64 x.1.2.2])) _ () X Y row hb hg hr,rfl⟩) ?assign ?body ?done ?stop
 case assign=>
  rintro l pre x W K ⟨hno,hB⟩ hK
  gi_wp2
  exact acG
 case body=>
  rintro l pre x a' W hl ⟨r,hr⟩ ⟨hno,hB⟩ ⟨Bx,hb,rfl⟩ hlt
  obtain⟨⟨xp,xf,xl⟩,hxw⟩:=x
  dsimp only at hb
  have Uo:=ah hno
  have hpW:=N8.below hB N8.lt
  have EA:=hr1.below hB hr1.lt
  have zN:=hr2.below hB hr2.lt
  have hxB:Below w.heap.size w W:=hx3.trans (hB.mono hx3.size)
  have BK:∀dd os,Calls Tryz.prog 59 #[.agg #[.slice a1 p.parts.length k1,.int .i64 p.frame,.slice a2 p.wins.length k2,.slice a3 p.chans.length k3],.int .u64 t] (Go.Sort.grow (redrawn W dd) os) fun e w''=>e=.returned (.int .i64 m)∧∃p:Regrown,w''=Go.Sort.grow (redrawn W p.d) p.os:=fun dd os=>Calls.regrown_of (QS.out _)
  have CY:=ah BK
  have g1:=hpW.Ar
  have g2:=EA.Ar
  have g3:=hb.Ar
  clear hno BK
  by_cases he:xf=m
  ·have heb:(xf==m)=true:=by simpa using he
   have HE:=ah he
   clear he
   gi_wp2
   ((refine qF ay ay ay ?_);(repeat(go_big_quiet_step ((first|(go_at_call 59;with_reducible exact CY.out _ _)))));(refine wpQuiet_nil ?_);intro _ hw';obtain⟨⟨dq,osq⟩,hw''⟩:=hw';subst hw'';have pE:=below_regrown W dq osq;generalize Go.Sort.grow (redrawn W dq) osq=w7 at*;have LC:=pE.size)
   clear g1 g2 g3
   have amE:=zN.below pE zN.lt
   obtain⟨c4,f4,l4,n4,m4⟩:=amE.rules
   gi_wp2
   refine⟨(GA pE).trans ((KeepsOthers.setCell _ _ _).from _),rfl,⟨(xp,xf,xl),hxw⟩,pre,rfl,?_,?_,?_⟩
   ·unfold Rf;simpa using HE.out
   ·exact amE.set 0 (.bool true)
   ·exact(hxB.trans (pE.mono hxB.size)).setCell (p:=⟨w.heap.size+1+1,0,none⟩) uT _
  ·have heb:(xf==m)=false:=by simpa using he
   have HE:=ah he
   clear he
   gi_wp2
   ((refine qF ay ay ay ?_);(repeat(go_big_quiet_step ((first|(go_at_call 59;with_reducible exact CY.out _ _)))));(refine wpQuiet_nil ?_);intro _ hw';obtain⟨⟨dq,osq⟩,hw''⟩:=hw';subst hw'';have pE:=below_regrown W dq osq;generalize Go.Sort.grow (redrawn W dq) osq=w7 at*;have LC:=pE.size)
   clear g1 g2 g3
   gi_wp2
   exact⟨GA pE,pE.mono hB.size,Uo.out.snoc (by have:=HE.out;unfold Rf;simpa using this),hB.trans (pE.mono hB.size)⟩
 case done=>
  rintro D ys W hD rfl ⟨hno,hB⟩ hK
  have zN:=hr2.below hB hr2.lt
  obtain⟨c4,f4,l4,n4,m4⟩:=zN.rules
  have hxB:Below w.heap.size w W:=hx3.trans (hB.mono hx3.size)
  have hat:(ys.map (·.1)).any (Rf m)=false:=by
   rw[List.any_eq_false]
   intro y hy
   obtain⟨x,hx,rfl⟩:=List.mem_map.1 hy
   rw[hno x hx];simp
  have Hw:=ah hat
  have QX:=hr2.lt
  have Ry:=zN.set 0 (.bool false)
  have Bl:(W.setCell ⟨w.heap.size+1+1,0,none⟩ (.bool false)).heap[D]?=some (.deferred (some [])):=by
   rw[heap_setCell_other _ _ _ _ wT];exact hK
  clear hno hat
  gi_wp2
  rw[Hw.out]
  refine⟨aI,.inl ⟨_,_,rfl,run_takeDeferred Bl,?_⟩⟩
  have b2:=((Own.from (gN (β:=Unit) _ 4 (fun _=>_)) w2.heap.size).putObj (s:=()) (Obj.deferred none) Ry hD Bl rfl).rules.1 0
  refine⟨.bool false,by simp[results,Tryz.results34,go_sem,b2],rfl,?_⟩
  refine Below.trans ?_ (belowK_b (w:=w2) hx3.size _ D _ _ hD Bl rfl rfl)
  exact hxB.setCell (p:=⟨w.heap.size+1+1,0,none⟩) uT _
 case stop=>
  rintro D c pre W hD G5 ⟨rfl,x,ys,rfl,h3,h5,h6⟩ hK
  have hat:(za.map (·.1)).any (Rf m)=true:=by
   rw[List.any_eq_true]
   exact⟨x.1,List.mem_map.2 ⟨x,G5.subset aI,rfl⟩,h3⟩
  gi_wp2
  rw[hat]
  refine⟨aI,.inl ⟨_,_,rfl,run_takeDeferred hK,?_⟩⟩
  have b2:=((Own.from (gN (β:=Unit) _ 4 (fun _=>_)) w2.heap.size).putObj (s:=()) (Obj.deferred none) h5 hD hK rfl).rules.1 0
  refine⟨.bool true,by simp[results,Tryz.results34,go_sem,b2],rfl,?_⟩
  exact acw
end Go.Proofs.YtgmodehldmahiaaGreatDoor.bF
namespace Go.Proofs.YtgmodehldmahiaaGreatDoor.bF
open Go Go.RowKit Go.Tm
end Go.Proofs.YtgmodehldmahiaaGreatDoor.bF
namespace Go.Proofs.YtgmodehldmahiaaGreatDoor.bF
open Go Go.RowKit Go.Tm
end Go.Proofs.YtgmodehldmahiaaGreatDoor.bF
namespace Go.Proofs.YtgmodehldmahiaaGreatDoor.bF
open Go Go.RowKit Go.Tm
end Go.Proofs.YtgmodehldmahiaaGreatDoor.bF
namespace Go.Proofs.YtgmodehldmahiaaGreatDoor.bF
open Go Go.RowKit Go.Tm
end Go.Proofs.YtgmodehldmahiaaGreatDoor.bF
namespace Go.Proofs.YtgmodehldmahiaaGreatDoor.bF
open Go Go.RowKit Go.Tm
end Go.Proofs.YtgmodehldmahiaaGreatDoor.bF
