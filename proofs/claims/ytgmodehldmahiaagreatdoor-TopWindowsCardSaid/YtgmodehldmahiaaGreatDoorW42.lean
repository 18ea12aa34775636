/- Part 42 of 50 of the proof of topWindows_holds. Conditions: see each. -/
import Derived.Test.YtgmodehldmahiaaGreatDoorW14
import Derived.Test.YtgmodehldmahiaaGreatDoorW34
import Derived.Test.YtgmodehldmahiaaGreatDoorW39
set_option linter.unusedVariables false
set_option linter.unusedSimpArgs false
set_option maxRecDepth 8192
set_option maxHeartbeats 40000000
section
namespace Go.Proofs.YtgmodehldmahiaaGreatDoor
open Go Go.RowKit Go.Tm
def nT(l:List Tab.bV):List Int:=l.map (fun p=>p.pid)
structure Pb(l:List Tab.bV):Prop where
 nd:(nT l).Nodup
 six:(l.filter (fun p=>decide (p.pid≠0))).length≤6
def Has(l:List Tab.bV)(n:Int):Prop:=n=0∨n∈nT l
theorem Pb.nil:Pb []:=⟨by simp[nT],aI⟩
theorem Pb.len{l:List Tab.bV}(h:Pb l):l.length≤7:=by
 have h1:∀m:List Tab.bV,(nT m).Nodup→m.length≤(m.filter (fun p=>decide (p.pid≠0))).length+(if 0∈nT m then 1 else 0):=by
  intro m
  induction m with
  |nil=>intro _;simp
  |cons x r ih=>
   intro hn
   simp only[nT,List.map_cons,List.nodup_cons] at hn
   have:=ih hn.2
   by_cases hx:x.pid=0
   ·have h0:¬(0∈nT r):=by rw[←hx];exact hn.1
    rw[if_neg h0] at this
    rw[if_pos (by simp[nT,hx]),List.filter_cons_of_neg (by simp[hx]),List.length_cons]
    omega
   ·have h3:(0∈nT (x::r))↔(0∈nT r):=by simp[nT];omega
    rw[List.filter_cons_of_pos (by simp[hx]),List.length_cons,List.length_cons]
    simp only[h3]
    omega
 have:=h1 l h.nd
 have:=h.six
 split at*<;>omega
theorem FT{l:List Tab.bV}{p:Tab.bV}(h:p.pid∉nT l):(Tab.lW l p).Perm (p::l):=by
 rw[Tab.Jc (by intro x hx he;exact h (by rw[←he];exact List.mem_map.2 ⟨x,hx,rfl⟩))]
 refine(List.perm_middle).trans ?_
 rw[List.takeWhile_append_dropWhile]
theorem Kv{l:List Tab.bV}{p:Tab.bV}(h:p.pid∈nT l):∃(i:Nat) (x:Tab.bV),l[i]?=some x∧x.pid=p.pid∧Tab.lW l p=l.set i p:=by
 unfold Tab.lW
 split
 ·rename_i i hi
  rw[List.findIdx?_eq_some_iff_getElem] at hi
  obtain⟨hi,h2,_⟩:=hi
  exact⟨i,l[i],List.getElem?_eq_getElem hi,BI,rfl⟩
 ·rename_i hn
  rw[List.findIdx?_eq_none_iff] at hn
  obtain⟨x,hx,he⟩:=List.mem_map.1 h
  have:=hn x hx
  simp[he] at this
theorem M5{l:List Tab.bV}{i:Nat}{x p:Tab.bV}(h:l[i]?=some x)(he:x.pid=p.pid):nT (l.set i p)=nT l:=by
 unfold nT
 rw[List.map_set]
 apply List.ext_getElem?
 intro j
 rw[List.getElem?_set]
 split
 ·rename_i hij
  subst hij
  rw[List.getElem?_map,h]
  have:=(List.getElem?_eq_some_iff.1 h).1
  simp[this,he]
 ·rfl
theorem Jl(l:List Tab.bV):(l.filter (fun p=>decide (p.pid≠0))).length=((nT l).filter (fun n=>decide (n≠0))).length:=by
 unfold nT
 rw[List.filter_map,List.length_map]
 rfl
theorem Pb.Tv{l m:List Tab.bV}(h:Pb l)(e:nT m=nT l):Pb m:=⟨by rw[e];exact h.nd,by rw[Jl,e,←Jl];exact h.six⟩
theorem M6{l:List Tab.bV}{p:Tab.bV}(n:Int):n∈nT (Tab.lW l p)↔n=p.pid∨n∈nT l:=by
 by_cases h:p.pid∈nT l
 ·obtain⟨i,x,hx,he,e⟩:=Kv h
  rw[e,M5 hx he]
  constructor
  ·exact fun h=> .inr h
  ·rintro(rfl|h2)
   ·exact h
   ·exact h2
 ·have:=(FT h).map (fun p=>p.pid)
  rw[show nT (Tab.lW l p)=(Tab.lW l p).map (fun p=>p.pid) from rfl,this.mem_iff]
  simp[nT]
theorem Has.put{l:List Tab.bV}{n:Int}(h:Has l n)(p:Tab.bV):Has (Tab.lW l p) n:=by
 rcases h with h|h
 ·exact .inl h
 ·exact .inr ((M6 n).2 (.inr h))
theorem Has.self(l:List Tab.bV)(p:Tab.bV):Has (Tab.lW l p) p.pid:= .inr ((M6 _).2 (.inl rfl))
theorem Pb.put{l:List Tab.bV}(h:Pb l){p:Tab.bV}(hp:Has l p.pid∨l.length<6):Pb (Tab.lW l p):=by
 by_cases hm:p.pid∈nT l
 ·obtain⟨i,x,hx,he,e⟩:=Kv hm
  rw[e];exact h.Tv (M5 hx he)
 ·have hpm:=FT hm
  refine⟨((hpm.map _).nodup_iff).2 (by simp only[List.map_cons,List.nodup_cons];exact⟨hm,h.nd⟩),?_⟩
  rw[(hpm.filter _).length_eq]
  have h6:=h.six
  rw[List.filter_cons]
  rcases hp with(h0|h1)|h2
  ·simp[h0] at*;exact h6
  ·exact absurd h1 hm
  ·have:=List.length_filter_le (fun p:Tab.bV=>decide (p.pid≠0)) l
   split
   ·simp only[List.length_cons];omega
   ·exact h6
theorem Pb.filter{l:List Tab.bV}(h:Pb l)(f:Tab.bV→Bool):Pb (l.filter f):=
 ⟨h.nd.sublist (List.filter_sublist.map _),Nat.le_trans ((List.filter_sublist.filter _).length_le) h.six⟩
theorem Pb.remove{l:List Tab.bV}(h:Pb l)(n:Int):Pb (Tab.xw l n):=h.filter _
theorem Gj(l:List Tab.bV)(a b:Int):nT (Tab.lK l a b)=nT l:=by
 unfold Tab.lK nT
 rw[List.map_map]
 apply List.map_congr_left
 intro x _
 simp only[Function.comp,Tab.rT]
 split<;>rfl
theorem Pb.adopt{l:List Tab.bV}(h:Pb l)(a b:Int):Pb (Tab.lK l a b):=h.Tv (Gj l a b)
theorem Ni(l:List Tab.bV)(n:Int):Has l (Tab.bD l n).1.pid:=by
 unfold Tab.bD
 split
 ·rename_i x hx
  exact .inr (List.mem_map.2 ⟨x,List.mem_of_find?_eq_some hx,rfl⟩)
 ·exact .inl rfl
theorem put_mem{l:List Tab.bV}{p x:Tab.bV}(h:x∈Tab.lW l p):x=p∨x∈l:=by
 by_cases hm:p.pid∈nT l
 ·obtain⟨i,y,hy,he,e⟩:=Kv hm
  rw[e] at h
  rcases List.mem_or_eq_of_mem_set h with h|h
  ·exact .inr h
  ·exact .inl h
 ·rcases List.mem_cons.1 ((FT hm).mem_iff.1 h) with h|h
  ·exact .inl h
  ·exact .inr h
structure q9(l:List Tab.bV)(p:Tab.bV):Prop where
 has:Has l p.pid
 wf:Tab.JG p
theorem aeY{p:Tab.bV}(h:Tab.JG p){st:Int}(hs:wfi st)(q:Pf):Tab.JG (yK p.pid p.par st q):=⟨by rw[Au];exact h.1,by rw[Ei];exact h.2.1,by rw[Kh];exact hs⟩
theorem Ar{l:List Tab.bV}{p:Tab.bV}(h:q9 l p){st:Int}(hs:wfi st)(q:Pf):q9 l (yK p.pid p.par st q):=⟨by rw[Au];exact h.has,aeY h.wf hs q⟩
theorem Wd{l:List Tab.bV}(h:∀x∈l,Tab.JG x)(n:Int):q9 l (Tab.bD l n).1:=by
 refine⟨Ni l n,?_⟩
 unfold Tab.bD
 split
 ·rename_i x hx
  exact h x (List.mem_of_find?_eq_some hx)
 ·exact⟨rfl,rfl,rfl⟩
theorem lM{n:Int}:wfi n↔-9223372036854775808≤n∧n≤9223372036854775807:=by
 unfold wfi
 simp[Lit.wf,IntKind.min,IntKind.max,IntKind.signed,IntKind.bits]
theorem take_len(size:Int)(l:List Heap.Sp)(n who:Int):(Heap.fZ size l n who).1.length≤l.length+1:=by
 unfold Heap.fZ
 split
 ·dsimp only;omega
 ·split
  ·dsimp only
   unfold Heap.ins
   rw[List.length_append,List.length_cons]
   rename_i x _
   have:(l.takeWhile (fun y=>decide (y.1<x.1))).length+(l.dropWhile (fun y=>decide (y.1<x.1))).length=l.length:=by
    rw[←List.length_append,List.takeWhile_append_dropWhile]
   dsimp only
   omega
  ·dsimp only;omega
theorem N9(l:List Heap.Sp)(who:Int):(Heap.gM l who).length≤l.length:=List.length_filter_le ..
theorem abY{size:Int}{l:List Heap.Sp}{n who:Int}(hs:wfi size)(hn:wfi n)(hw:wfi who)(hl:∀x∈l,Heap.Po x):∀x∈(Heap.fZ size l n who).1,Heap.Po x:=by
 unfold Heap.fZ
 split
 ·exact hl
 ·rename_i hc
  have hr:Heap.qA size l:=by
   apply Classical.byContradiction
   intro h
   exact hc (.inr (Heap.jN h))
  split
  ·rename_i x hx
   have hm:=List.mem_of_find?_eq_some hx
   obtain⟨l1,l2,e,g1,g2,g3,_⟩:=Heap.DC hr.1 hr.2 hm
   have h0:0≤Heap.mE 0 l1:=by
    have hr1:Heap.rightG size 0 l1:=by have:=hr.1;rw[e,Heap.m_] at this;exact this.1
    exact(Heap.nH hr1 hr.2).1
   have hsz:=lM.1 hs
   intro y hy
   dsimp only at hy
   unfold Heap.ins at hy
   rcases List.mem_append.1 hy with hy|hy
   ·exact hl y ((List.takeWhile_sublist _).subset hy)
   ·rcases List.mem_cons.1 hy with rfl|hy
    ·exact⟨lM.2 ⟨lq,lq⟩,hn,hw⟩
    ·exact hl y ((List.dropWhile_sublist _).subset hy)
  ·exact hl
def U64(n:Int):Prop:=0≤n∧n≤18446744073709551615
def akN(x:Ev):Prop:=wfi x.1∧cK x.2.1∧cK x.2.2.1∧U64 x.2.2.2
def Px(x:bf.Ch):Prop:=wfi x.1∧wfi x.2.1∧wfi x.2.2.1∧wfi x.2.2.2.1∧wfi x.2.2.2.2
def Ur(m:Ms):Prop:=U64 m.1∧m.2.size≤9223372036854775807
theorem agx{n:Int}(h:U64 n):(Lit.int .u64 n).wf=true:=by
 unfold U64 at h
 simp[Lit.wf,IntKind.min,IntKind.max,IntKind.signed,IntKind.bits]
 omega
structure Bd(a e c:Nat)(k:Kn):Prop where
 P:Pb k.P
 L:k.L.length≤a
 S:k.S.length≤e
 Pi:k.Pi.length≤a
 H:k.H.length≤a
 tr:k.tr.length≤a
 se:k.se.length≤c
 co:k.co.size≤a
 TN:∀x∈k.bx,x.ms.length≤8∧∀m∈x.ms,Ur m
 ses:∀m∈k.se,wfi m.1∧m.2.size≤9223372036854775807
 hw:∀x∈k.H,Heap.Po x
 bx:k.bx.length≤1000000
 im:k.im.length≤8796093022208
 ou:k.ou.length≤1000000
 ins:k.ins.length≤1000000
 hs:wfi k.hs
 now:0≤k.now∧k.now≤18446744073709551615
 dZ:∀x∈k.im,x.size≤9223372036854775807
 dep:∀x∈k.ins,x.2.2.2.2≤8
 pw:∀x∈k.P,Tab.JG x
 sw:∀x∈k.S,Sleep.akO x
 tw:∀x∈k.tr,akN x
 ow:∀x∈k.ou,Px x
 iw:∀x∈k.ins,Px x
theorem Bd.mono{a e c a' e' c':Nat}{k:Kn}(h:Bd a e c k)(ha:a≤a')(he:e≤e')(hc:c≤c'):Bd a' e' c' k:=
 {h with L:=Nat.le_trans h.L ha,S:=Nat.le_trans h.S he,Pi:=Nat.le_trans h.Pi ha,H:=Nat.le_trans h.H ha,tr:=Nat.le_trans h.tr ha,se:=Nat.le_trans h.se hc,co:=Nat.le_trans h.co ha}
theorem Bd.fit{a e c:Nat}{k:Kn}(h:Bd a e c k)(ha:a≤1000000000)(he:e≤1000000000)(hc:c≤1000000000):Fit k:=
 ⟨by have:=h.P.len;omega,Nat.le_trans h.L ha,Nat.le_trans h.S he,Nat.le_trans h.Pi ha,Nat.le_trans h.H ha,Nat.le_trans h.tr ha,Nat.le_trans h.se hc,by have:=h.bx;omega,by have:=h.im;omega,by have:=h.ou;omega,by have:=h.ins;omega,
  Nat.le_trans h.co ha,h.hs,h.hw,h.now,h.dZ,fun x hx=>⟨by have:=(h.TN x hx).1;omega,fun m hm=>((h.TN x hx).2 m hm).2⟩⟩
section
variable {a e c:Nat} {k:Kn}
theorem Bd.abm(h:Bd a e c k){p:Tab.bV}(hp:q9 k.P p):Bd a e c {k with P:=Tab.lW k.P p}:=
 {h with
  P:=h.P.put (.inl hp.has)
  pw:=fun x hx=>by
   rcases put_mem hx with rfl|hx
   ·exact hp.wf
   ·exact h.pw x hx}
theorem Bd.find(h:Bd a e c k)(n:Int):q9 k.P (Tab.bD k.P n).1:=Wd h.pw n
theorem Bd.answer(h:Bd a e c k){p:Tab.bV}(hp:q9 k.P p){x:nW}(hx:iJ x){v:Int}(hv:cK v)(er:Int):Bd (a+1) e c (bU k p x v er):=by
 have h1:=h.abm (p:=agc p (Call.qj er v)) (Ar hp aB _)
 have h2:=h1.mono (Nat.le_succ a) (Nat.le_refl e) (Nat.le_refl c)
 exact{h2 with
  tr:=by have:=h.tr;unfold bU;simp only[List.length_append,List.length_cons,List.length_nil];omega
  tw:=by
   intro y hy
   rcases List.mem_append.1 hy with hy|hy
   ·exact h.tw y hy
   ·rw[List.mem_singleton] at hy
    subst hy
    exact⟨hp.wf.1,hx.1,lJ hv,h.now⟩}
theorem Bd.add(h:Bd a e c k)(n:Int):Bd (a+1) e c (XB k n):=by
 have h2:=h.mono (Nat.le_succ a) (Nat.le_refl e) (Nat.le_refl c)
 exact{h2 with
  L:=by
   have:=h.L
   unfold XB Turn.oL
   split
   ·dsimp only;omega
   ·simp only[List.length_append,List.length_cons,List.length_nil];omega}
theorem IX(l:List Int)(n:Int):(Turn.qw l n).1.length=l.length:=by
 unfold Turn.qw
 split
 ·rfl
 ·simp
theorem U2(l:List Int)(n:Int):(Turn.tL l n).1.length=l.length:=by
 unfold Turn.tL
 split
 ·rfl
 ·split
  ·exact IX ..
  ·rfl
theorem Bd.yield(h:Bd a e c k):Bd a e c (Fu k):={h with L:=by unfold Fu;dsimp only;rw[IX];exact h.L}
theorem Bd.spend(h:Bd a e c k):Bd a e c (BU k):={h with L:=by unfold BU;dsimp only;rw[U2];exact h.L}
theorem Nl(l:List Int)(n pid:Int):(Turn.gM l n pid).1.length≤l.length:=by
 unfold Turn.gM
 split
 ·exact List.length_filter_le ..
 ·exact Nat.le_refl _
theorem Bd.stop(h:Bd a e c k){p:Tab.bV}(hp:q9 k.P p){st:Int}(hs:wfi st)(x:nW):Bd a e c (vH k p st x):=by
 have h1:=h.abm (p:=yK p.pid p.par st {pq p with x:=x}) (Ar hp hs _)
 exact{h1 with L:=by unfold vH;exact Nat.le_trans (Nl ..) h.L}
theorem RZ(l:List Sleep.Al)(x:Sleep.Al):(Sleep.oL l x).length=l.length+1:=by
 unfold Sleep.oL
 rw[List.length_append,List.length_cons]
 have:(l.takeWhile (fun y=>!Sleep.behind y x)).length+(l.dropWhile (fun y=>!Sleep.behind y x)).length=l.length:=by
  rw[←List.length_append,List.takeWhile_append_dropWhile]
 omega
theorem RY{l:List Sleep.Al}{x y:Sleep.Al}(h:y∈Sleep.oL l x):y=x∨y∈l:=by
 unfold Sleep.oL at h
 rcases List.mem_append.1 h with h|h
 ·exact .inr ((List.takeWhile_sublist _).subset h)
 ·rcases List.mem_cons.1 h with h|h
  ·exact .inl h
  ·exact .inr ((List.dropWhile_sublist _).subset h)
theorem Bd.sleep(h:Bd a e c k){p:Tab.bV}(hp:q9 k.P p){x:nW}(hx:iJ x):Bd a (e+1) c (Fz k p x):=by
 have hs:=h.stop hp (st:=3) aB x
 have h1:=hs.mono (Nat.le_refl a) (Nat.le_succ e) (Nat.le_refl c)
 exact{h1 with
  S:=by unfold Fz;dsimp only;rw[RZ];exact Nat.succ_le_succ hs.S
  sw:=by
   intro y hy
   rcases RY hy with rfl|hy
   ·have h2:=hs.now
    have h3:=hx.2.1.1
    exact⟨agx ⟨lq,lq⟩,hp.wf.1⟩
   ·exact hs.sw y hy}
theorem Bd.want(h:Bd a e c k)(n:Int):Bd a e c {k with want:=n}:={h with}
theorem Bd.ends(h:Bd a e c k)(pid code gone:Int):Bd a e c (mW k pid code gone):=by
 unfold mW
 split
 ·exact{h with P:=Pb.nil,L:=Nat.zero_le _,S:=Nat.zero_le _,Pi:=Nat.zero_le _,H:=Nat.zero_le _,hw:=EY,pw:=EY,sw:=EY}
 ·have hb:Bd a e c {k with Pi:=zY k.Pi (pq (Tab.bD k.P pid).1) 4,H:=Heap.gM k.H pid,L:=(Turn.gM k.L k.left pid).1,left:=(Turn.gM k.L k.left pid).2,S:=Sleep.gM k.S pid,P:=Tab.lK k.P pid 1}:=
   {h with
    P:=h.P.adopt pid 1
    L:=Nat.le_trans (Nl ..) h.L
    S:=Nat.le_trans (List.length_filter_le ..) h.S
    Pi:=by dsimp only;rw[F4];exact h.Pi
    H:=Nat.le_trans (N9 ..) h.H
    hw:=fun x hx=>h.hw x (List.mem_filter.1 hx).1
    sw:=fun x hx=>h.sw x (List.mem_filter.1 hx).1
    pw:=fun x hx=>by
         unfold Tab.lK at hx
         obtain⟨y,hy,rfl⟩:=List.mem_map.1 hx
         have:=h.pw y hy
         unfold Tab.rT
         split
         ·exact⟨this.1,rfl,this.2.2⟩
         ·exact this}
  dsimp only
  split
  ·exact{hb with P:=hb.P.remove pid,pw:=fun x hx=>hb.pw x (List.mem_filter.1 hx).1}
  ·refine hb.abm (Ar ⟨?_,(h.find pid).wf⟩ aB _)
   have:=Ni k.P pid
   unfold Has at*
   dsimp only
   rw[Gj]
   exact this
theorem Bd.fresh(h:Bd a e c k){p:Tab.bV}(hp:Tab.JG p):Bd (a+1) e c (dV k p).1:=by
 have h2:=h.mono (Nat.le_succ a) (Nat.le_refl e) (Nat.le_refl c)
 unfold dV
 split
 ·exact h2
 ·rename_i h6
  dsimp only
  split
  ·have hl:=h.L
   have hh:=h.H
   exact{h2 with
    P:=h.P.put (.inr ah)
    H:=Nat.le_trans (take_len ..) (Nat.succ_le_succ h.H)
    Pi:=by dsimp only;rw[F3];exact h2.Pi
    L:=by
     unfold Turn.oL
     split
     ·dsimp only;omega
     ·simp only[List.length_append,List.length_cons,List.length_nil];omega
    hw:=abY h.hs aB (wrap64_wf _) h.hw
    pw:=fun x hx=>by
     rcases put_mem hx with rfl|hx
     ·exact⟨by rw[Au];exact wrap64_wf _,by rw[Ei];exact hp.2.1,by rw[Kh];decide⟩
     ·exact h.pw x hx}
  ·exact h2
end
end Go.Proofs.YtgmodehldmahiaaGreatDoor
end
section
namespace Go.Proofs.YtgmodehldmahiaaGreatDoor
open Go Go.RowKit Go.Tm
theorem Kl(n:Int):cK (n%4294967296):=⟨ah,ah⟩
section
variable (k:Kn) (p:Tab.bV) (x:nW)
theorem ZI(h:(sH k p x).2.2≠0):(sH k p x).1=k:=by
 revert h;unfold sH;repeat' split
 all_goals intro h;first|rfl|exact absurd rfl h
theorem aaq(h:(sN k p x).2.2≠0):(sN k p x).1=k:=by
 revert h;unfold sN;repeat' split
 all_goals intro h;first|rfl|exact absurd rfl h
theorem Uz(h:(oq k p x).2.2≠0):(oq k p x).1=k:=by
 revert h;unfold oq xq;repeat' split
 all_goals intro h;first|rfl|exact absurd rfl h
theorem aak(h:(sM k p x).2.2≠0):(sM k p x).1=k:=by
 revert h;unfold sM;repeat' split
 all_goals intro h;first|rfl|exact absurd rfl h
theorem Ws(h:(oC k p x).2.2≠0):(oC k p x).1=k:=by
 revert h;unfold oC;repeat' split
 all_goals intro h;first|rfl|exact absurd rfl h
theorem aac(h:(sI k p x).2.2≠0):(sI k p x).1=k:=by
 revert h;unfold sI BX;repeat' split
 all_goals intro h;first|rfl|exact absurd rfl h
theorem aah(h:(sK k p x).2.2≠0):(sK k p x).1=k:=by
 revert h;unfold sK;repeat' split
 all_goals intro h;first|rfl|exact absurd rfl h
theorem aaW(h:(eT k p x).2.2≠0):(eT k p x).1=k:=by
 revert h;unfold eT;repeat' split
 all_goals intro h;first|rfl|exact ZI k p x h|exact aaq k p x h|exact Uz k p x h|exact aak k p x h|exact Ws k p x h|exact aac k p x h|exact aah k p x h|exact absurd rfl h
theorem agw:cK (sH k p x).2.1:=by
 unfold sH
 exact EH
theorem agP:cK (sN k p x).2.1:=by
 unfold sN
 exact EH
theorem abL:cK (oq k p x).2.1:=by
 unfold oq xq
 exact EH
theorem agN:cK (sM k p x).2.1:=by
 unfold sM
 exact EH
theorem acU:cK (oC k p x).2.1:=by
 unfold oC
 exact EH
theorem agJ:cK (sI k p x).2.1:=by
 unfold sI BX
 exact EH
theorem agM:cK (sK k p x).2.1:=by
 unfold sK
 exact EH
theorem bW{α:Sort _}{c:Prop} [Decidable c] {a b:α}(M:α→Prop)(h1:c→M a)(h2:¬c→M b):M (if c then a else b):=by
 by_cases h:c
 ·rw[if_pos h];exact h1 h
 ·rw[if_neg h];exact h2 h
theorem Qt:cK (eT k p x).2.1:=by
 unfold eT
 refine bW (fun r:Kn×Int×Int=>cK r.2.1) (fun _=>agw k p x) fun _=>?_
 refine bW (fun r:Kn×Int×Int=>cK r.2.1) (fun _=>Kl _) fun _=>?_
 refine bW (fun r:Kn×Int×Int=>cK r.2.1) (fun _=>Kl _) fun _=>?_
 refine bW (fun r:Kn×Int×Int=>cK r.2.1) (fun _=>jq) fun _=>?_
 refine bW (fun r:Kn×Int×Int=>cK r.2.1) (fun _=>agP k p x) fun _=>?_
 refine bW (fun r:Kn×Int×Int=>cK r.2.1) (fun _=>abL k p x) fun _=>?_
 refine bW (fun r:Kn×Int×Int=>cK r.2.1) (fun _=>agN k p x) fun _=>?_
 refine bW (fun r:Kn×Int×Int=>cK r.2.1) (fun _=>acU k p x) fun _=>?_
 refine bW (fun r:Kn×Int×Int=>cK r.2.1) (fun _=>agJ k p x) fun _=>?_
 refine bW (fun r:Kn×Int×Int=>cK r.2.1) (fun _=>agM k p x) fun _=>?_
 exact jq
end
theorem aay(m:ByteArray)(a n:Int):(sD m a n).1.size≤m.size:=by
 unfold sD
 split
 ·dsimp only;rw[ByteArray.size_extract];omega
 ·exact Nat.zero_le _
section
variable {a e c:Nat} {k:Kn} {p:Tab.bV}
theorem Bd.up(h:Bd a e c k):Bd (a+1) e (c+1) k:=h.mono ah ah ah
theorem Bd.Ml(h:Bd a e c k)(hp:q9 k.P p)(q:Pf):Bd a e c {k with P:=Tab.lW k.P (yK p.pid p.par p.st q)}:=h.abm (Ar hp hp.wf.2.2 q)
theorem Bd.wait(h:Bd a e c k)(x:nW):Bd (a+1) e (c+1) (sH k p x).1:=by
 unfold sH;repeat' split
 ·exact{h.up with P:=h.P.remove _,pw:=fun x hx=>h.pw x (List.mem_filter.1 hx).1}
 ·exact h.up
 ·exact h.up
theorem Bd.put(h:Bd a e c k)(x:nW):Bd (a+1) e (c+1) (Ub k p x).1:=by
 unfold Ub
 exact{h.up with co:=by have:=h.co;dsimp only;rw[ByteArray.size_append];show k.co.size+1≤a+1;omega}
theorem Bd.pipe(h:Bd a e c k)(hp:q9 k.P p)(x:nW):Bd (a+1) e (c+1) (sN k p x).1:=by
 unfold sN;repeat' split
 ·exact{h.up.Ml hp _ with Pi:=Nat.le_trans (Pipe.Vv _) (Nat.succ_le_succ h.Pi)}
 ·exact h.up
 ·exact h.up
 ·exact h.up
theorem Bd.ni(h:Bd a e c k)(n:Int)(v:Value):Bd a e c (ni k n v):={h with Pi:=by unfold Go.Proofs.YtgmodehldmahiaaGreatDoor.ni;dsimp only;rw[List.length_set];exact h.Pi}
theorem Bd.write(h:Bd a e c k)(x:nW):Bd (a+1) e (c+1) (oq k p x).1:=by
 unfold oq xq;repeat' split
 ·exact h.up.ni _ _
 ·exact h.up
 ·exact h.up
 ·exact h.up
theorem Bd.read(h:Bd a e c k)(hp:q9 k.P p)(x:nW):Bd (a+1) e (c+1) (sM k p x).1:=by
 unfold sM;repeat' split
 ·exact(h.up.ni _ _).Ml (k:=Go.Proofs.YtgmodehldmahiaaGreatDoor.ni k _ _) hp _
 ·exact h.up
 ·exact h.up
 ·exact h.up
theorem Bd.close(h:Bd a e c k)(hp:q9 k.P p)(x:nW):Bd (a+1) e (c+1) (oC k p x).1:=by
 unfold oC;repeat' split
 ·exact{h.up.Ml hp _ with Pi:=by dsimp only;rw[Pipe.zC];exact h.up.Pi}
 ·exact h.up
theorem Bd.send(h:Bd a e c k){x:nW}(hx:iJ x):Bd (a+1) e (c+1) (sI k p x).1:=by
 unfold sI BX;repeat' split
 ·exact h.up
 ·exact{h.up with
   se:=by have:=h.se;simp only[List.length_append,List.length_cons,List.length_nil];omega
   ses:=by
    intro m hm
    rcases List.mem_append.1 hm with hm|hm
    ·exact h.ses m hm
    ·rw[List.mem_singleton] at hm
     subst hm
     exact⟨lM.2 ⟨by have:=hx.2.1.1;dsimp only;omega,by have:=hx.2.1.2;dsimp only;omega⟩,Nat.le_trans (aay ..) (iY p).mem⟩}
 ·exact h.up
 ·exact h.up
theorem TG{k:Kn}{n:Int}(h:∀x∈k.bx,x.ms.length≤8∧∀m∈x.ms,Ur m):(oV k n).ms.length≤8∧∀m∈(oV k n).ms,Ur m:=by
 unfold oV
 rw[List.getD_eq_getElem?_getD]
 cases hb:k.bx[n.toNat]? with
 |none=>exact⟨by simp[bx0],by simp[bx0]⟩
 |some x=>exact h x (List.mem_of_getElem? hb)
theorem abZ(ch:bf.Ch)(ms:List Ms):(j6 ch ms).1.length≤ms.length:=by
 unfold j6
 split
 ·exact Nat.zero_le _
 ·dsimp only
  split
  ·exact Nat.le_refl _
  ·rw[List.length_drop];omega
theorem Bd.recv(h:Bd a e c k)(hp:q9 k.P p)(x:nW):Bd (a+1) e (c+1) (sK k p x).1:=by
 unfold sK;repeat' split
 ·exact h.up
 ·exact{h.up.Ml hp _ with
   bx:=by dsimp only;rw[List.length_set];exact h.bx
   TN:=by
    intro y hy
    have hb:=TG (n:=x.2.1) h.TN
    rcases List.mem_or_eq_of_mem_set hy with hy|rfl
    ·exact h.TN y hy
    ·exact⟨Nat.le_trans (abZ ..) hb.1,fun m hm=>hb.2 m (QO m hm)⟩}
 ·exact h.up
 ·exact h.up
 ·exact h.up
theorem Bd.does(h:Bd a e c k)(hp:q9 k.P p){x:nW}(hx:iJ x):Bd (a+1) e (c+1) (eT k p x).1:=by
 unfold eT
 repeat' split
 ·exact h.wait x
 ·exact h.up
 ·exact h.up
 ·exact h.put x
 ·exact h.pipe hp x
 ·exact h.write x
 ·exact h.read hp x
 ·exact h.close hp x
 ·exact h.send hx
 ·exact h.recv hp x
 ·exact h.up
theorem Bd.tr'{r:Kn×Int×Int}(h:Bd a e c r.1)(pid:Int){x:nW}(hx:iJ x)(hv:cK r.2.1):Bd (a+1) e c (CQ r pid x).1:=by
 unfold CQ
 split
 ·exact Mf
 ·exact h.answer (h.find _) hx hv _
theorem Bd.tried(h:Bd a e c k)(pid:Int){x:nW}(hx:iJ x):Bd (a+2) e (c+1) (CQ (eT k (Tab.bD k.P pid).1 x) pid x).1:=(h.does (h.find _) hx).tr' pid hx (Qt _ _ _)
theorem agD{r:Kn×Int×Int}{pid:Int}{x:nW}(h:(CQ r pid x).2=false):(CQ r pid x).1=r.1∧r.2.2=6:=by
 unfold CQ at*
 split
 ·rename_i hc;exact⟨rfl,hc.1⟩
 ·rename_i hc;rw[if_neg hc] at h;cases h
theorem Bd.tries(h:Bd a e c k)(hp:q9 k.P p){x:nW}(hx:iJ x):Bd (a+2) e (c+1) (uU k p x).1:=by
 have h1:=h.tried p.pid hx
 unfold uU
 dsimp only
 split
 ·exact h1
 ·rename_i hf
  rw[Bool.not_eq_true] at hf
  obtain⟨e1,e2⟩:=agD hf
  refine h1.stop ?_ aB x
  rw[e1,aaW _ _ _ (by rw[e2];decide)]
  exact hp
theorem V5{n:Int}(h:Has k.P n)(q:Tab.bV):Has (dV k q).1.P n:=by
 unfold dV
 split
 ·exact h
 ·dsimp only
  split
  ·exact h.put _
  ·exact h
theorem Gm(h:q9 k.P p)(q:Tab.bV):q9 (dV k q).1.P p:=⟨V5 h.has q,h.wf⟩
theorem TA(h:Tab.JG p):Tab.JG (mV p):=⟨by unfold mV;rw[Au];exact h.1,by unfold mV;rw[Ei];exact h.1,by unfold mV;rw[Kh];exact h.2.2⟩
theorem Qo{n:Int}(h:wfi n)(m:ByteArray):Tab.JG (newP n m):=⟨by unfold newP;rw[Au];decide,by unfold newP;rw[Ei];exact h,by unfold newP;rw[Kh];decide⟩
theorem Bd.kill(h:Bd a e c k)(hp:q9 k.P p){x:nW}(hx:iJ x):Bd (a+2) (e+1) (c+1) (vI k p x).1:=by
 unfold vI
 repeat' split
 ·exact(h.answer hp hx jq _).mono ah ah ah
 ·exact(h.answer hp hx jq _).mono ah ah ah
 ·exact(h.ends _ _ _).mono ah ah ah
 ·exact((h.ends _ _ _).answer ((h.ends _ _ _).find _) hx jq _).mono ah ah ah
theorem Bd.ask(h:Bd a e c k)(hp:q9 k.P p){x:nW}(hx:iJ x):Bd (a+2) (e+1) (c+1) (zZ k p x).1:=by
 have hA:=fun er=>(h.answer hp hx jq er).mono (a':=a+2) (e':=e+1) (c':=c+1) ah ah ah
 unfold zZ
 refine bW (fun r:Kn×Bool=>Bd (a+2) (e+1) (c+1) r.1) (fun _=>(h.ends _ _ _).mono (a':=a+2) (e':=e+1) (c':=c+1) ah ah ah) fun _=>?_
 refine bW (fun r:Kn×Bool=>Bd (a+2) (e+1) (c+1) r.1) (fun _=>(h.answer hp hx jq 0).yield.mono (a':=a+2) (e':=e+1) (c':=c+1) ah ah ah) fun _=>?_
 refine bW (fun r:Kn×Bool=>Bd (a+2) (e+1) (c+1) r.1) (fun _=>bW (fun r:Kn×Bool=>Bd (a+2) (e+1) (c+1) r.1) (fun _=>(h.sleep hp hx).mono (a':=a+2) (e':=e+1) (c':=c+1) ah ah ah) fun _=>hA 0) fun _=>?_
 refine bW (fun r:Kn×Bool=>Bd (a+2) (e+1) (c+1) r.1) (fun _=>bW (fun r:Kn×Bool=>Bd (a+2) (e+1) (c+1) r.1) (fun _=>hA 1) fun _=>((h.want (3+x.2.1)).answer hp hx jq 0).mono (a':=a+2) (e':=e+1) (c':=c+1) ah ah ah) fun _=>?_
 refine bW (fun r:Kn×Bool=>Bd (a+2) (e+1) (c+1) r.1) (fun _=>((h.want (wrap64 (wrap64 (k.want+1)+1))).answer hp hx jq 0).mono (a':=a+2) (e':=e+1) (c':=c+1) ah ah ah) fun _=>?_
 refine bW (fun r:Kn×Bool=>Bd (a+2) (e+1) (c+1) r.1) (fun _=>((h.want (wrap64 (k.want+1))).answer hp hx jq 0).mono (a':=a+2) (e':=e+1) (c':=c+1) ah ah ah) fun _=>?_
 refine bW (fun r:Kn×Bool=>Bd (a+2) (e+1) (c+1) r.1) (fun _=>h.kill hp hx) fun _=>?_
 refine bW (fun r:Kn×Bool=>Bd (a+2) (e+1) (c+1) r.1) (fun _=>((h.fresh (TA hp.wf)).answer (Gm hp _) hx (AU _ _) _).mono (a':=a+2) (e':=e+1) (c':=c+1) ah ah ah) fun _=>?_
 refine bW (fun r:Kn×Bool=>Bd (a+2) (e+1) (c+1) r.1) (fun _=>bW (fun r:Kn×Bool=>Bd (a+2) (e+1) (c+1) r.1) (fun _=>((h.fresh (Qo hp.wf.1 _)).answer (Gm hp _) hx (AU _ _) _).mono (a':=a+2) (e':=e+1) (c':=c+1) ah ah ah) fun _=>hA _) fun _=>?_
 refine bW (fun r:Kn×Bool=>Bd (a+2) (e+1) (c+1) r.1) (fun _=>bW (fun r:Kn×Bool=>Bd (a+2) (e+1) (c+1) r.1) (fun _=>(h.answer (p:=Ak p _) (Ar hp hp.wf.2.2 _) hx jq 0).mono (a':=a+2) (e':=e+1) (c':=c+1) ah ah ah) fun _=>hA _) fun _=>?_
 exact(h.tries hp hx).mono (a':=a+2) (e':=e+1) (c':=c+1) ah ah ah
theorem Bd.ahp(h:Bd a e c k)(hp:q9 k.P p){x:nW}(hx:iJ x)(ha:a+2≤1000000000)(he:e+1≤1000000000)(hc:c+1≤1000000000):Kk k p x:=
 ⟨fun _=>(h.ends _ _ _).fit ah ah ah,
  fun _=>⟨(h.fresh (TA hp.wf)).fit ah ah ah,lJ (AU _ _)⟩,
  fun _ _=>⟨(h.fresh (Qo hp.wf.1 _)).fit ah ah ah,lJ (AU _ _)⟩,
  zA _ _,
  (h.does (h.find _) hx).fit ah ah ah,
  lJ (Qt _ _ _),
  (h.tried p.pid hx).fit ah ah ah⟩
theorem Bd.ran(h:Bd a e c k)(hp:q9 k.P p):Bd a e c (su k p):=h.Ml hp _
theorem Co(p:Tab.bV):iJ (pX (jZ (pq p).c (pq p).mem).1):=Nh (vk (iY p).c (AP p)).1
theorem Ku(hp:q9 k.P p):q9 (su k p).P (uJ p):=⟨by unfold su;exact Has.self _ _,aeY hp.wf hp.wf.2.2 _⟩
theorem Bd.goes(h:Bd a e c k):Bd (a+2) (e+1) (c+1) (n_ k):=by
 unfold n_
 split
 ·exact Mf
 ·have hp:=h.find (k.L.headD 0)
  have hr:=h.ran hp
  have ha:=hr.ask (p:=uJ (Tab.bD k.P (k.L.headD 0)).1) (Ku hp) (Co (Tab.bD k.P (k.L.headD 0)).1)
  unfold IU
  split
  ·exact hr.spend.mono ah ah ah
  split
  ·split
   ·exact ha.spend
   ·exact ha
  ·exact(h.ends _ _ _).mono ah ah ah
theorem Bd.acz(h:Bd a e c k)(ha:a+2≤1000000000)(he:e+1≤1000000000)(hc:c+1≤1000000000):KJ k:=
 have hp:=h.find (k.L.headD 0)
 ⟨(h.ran hp).fit ah ah ah,fun _=>(h.ran hp).ahp (Ku hp) (Co _) ha he hc,fun _=>Nat.le_trans ((h.ran hp).ask (Ku hp) (Co _)).L ah⟩
theorem Bd.yE(h:Bd a e c k)(n:Int):Bd (a+2) e c (yE k n):=by
 unfold Go.Proofs.YtgmodehldmahiaaGreatDoor.yE
 split
 ·exact(h.answer (h.find _) (iY _).x jq 0).add n
 ·exact Mf
theorem Bd.jF(l:List Int):∀{a:Nat} {k:Kn},Bd a e c k→Bd (a+2*l.length) e c (jF k l):=by
 induction l with
 |nil=>intro a k h;exact h
 |cons n r ih=>
  intro a k h
  have:=ih (h.yE n)
  exact this.mono PV (Nat.le_refl _) (Nat.le_refl _)
theorem Bd.yD(h:Bd a e c k)(q:Tab.bV):Bd (a+3) e (c+1) (yD k q):=by
 unfold Go.Proofs.YtgmodehldmahiaaGreatDoor.yD
 split
 ·split
  ·exact(h.tried q.pid (iY q).x).add _
  ·exact(h.tried q.pid (iY q).x).mono ah ah ah
 ·exact Mf
theorem Bd.qx(l:List Tab.bV):∀{a c:Nat} {k:Kn},Bd a e c k→Bd (a+3*l.length) e (c+l.length) (qx k l):=by
 induction l with
 |nil=>intro a c k h;exact h
 |cons n r ih=>
  intro a c k h
  have:=ih (h.yD n)
  exact this.mono PV (Nat.le_refl _) PV
theorem Bd.ZG(h:Bd a e c k)(q:Tab.bV)(ha:a+2≤1000000000)(he:e≤1000000000)(hc:c+1≤1000000000):Nz k q:=
 ⟨h.fit ah ah ah,fun _=>(h.does (h.find _) (iY q).x).fit ah ah ah,fun _=>lJ (Qt _ _ _),fun _=>Nat.le_trans (h.tried q.pid (iY q).x).L ah⟩
theorem Bd.zero(h:Bd a e c k):Bd a e 0 (gF k):={h with se:=Nat.le_refl _,ses:=by intro m hm;cases hm}
theorem Bd.rest(h:Bd a e c k):Bd a e c (oU k):={h with sw:=fun x hx=>h.sw x ((List.dropWhile_sublist _).subset hx),S:=by unfold oU Sleep.Pj;exact Nat.le_trans (List.dropWhile_sublist _).length_le h.S}
theorem acF(l:List Sleep.Al)(n:Int):(Sleep.qI l n).length≤l.length:=by
 unfold Sleep.qI
 rw[List.length_map]
 exact(List.takeWhile_sublist _).length_le
theorem Bd.aeO(h:Bd a e 0 k)(i:Nat):Bd (a+2*e) e 0 (Go.Proofs.YtgmodehldmahiaaGreatDoor.jF (oU k) ((Sleep.qI k.S k.now).take i)):=
 ((h.rest).jF _).mono (by have:=acF k.S k.now;have:=h.S;rw[List.length_take];omega) (Nat.le_refl _) (Nat.le_refl _)
theorem Bd.Ze(h:Bd a e 0 k):Bd (a+2*e) e 0 (Go.Proofs.YtgmodehldmahiaaGreatDoor.jF (oU k) (Sleep.qI k.S k.now)):=by
 have:=h.aeO (Sleep.qI k.S k.now).length
 rwa[List.take_length] at this
theorem Bd.aeN(h:Bd a e 0 k)(i:Nat):Bd (a+2*e+21) e 7 (Go.Proofs.YtgmodehldmahiaaGreatDoor.qx (Go.Proofs.YtgmodehldmahiaaGreatDoor.jF (oU k) (Sleep.qI k.S k.now)) ((Go.Proofs.YtgmodehldmahiaaGreatDoor.jF (oU k) (Sleep.qI k.S k.now)).P.take i)):=
 (h.Ze.qx _).mono adf (Nat.le_refl _) adf
theorem Bd.wakes(h:Bd a e 0 k):Bd (a+2*e+21) e 7 (jE k):=by
 have:=h.aeN (Go.Proofs.YtgmodehldmahiaaGreatDoor.jF (oU k) (Sleep.qI k.S k.now)).P.length
 rwa[List.take_length] at this
theorem Bd.vP(h:Bd a e c k):Bd a e c (vP k):={h with now:=by have:=h.now;unfold Go.Proofs.YtgmodehldmahiaaGreatDoor.vP;dsimp only;omega}
theorem Bd.step(h:Bd a e c k):Bd (a+2*e+23) (e+1) 8 (jI k):=by
 unfold jI
 apply Bd.vP
 split
 ·exact h.zero.wakes.goes
 ·exact h.zero.mono ah ah ah
theorem Bd.ab7(h:Bd a e c k)(ha:a+2*e+100≤1000000000)(hc:c≤1000000):AB k:=
 ⟨h.fit ah ah ah,fun _ i=>(h.zero.aeO i).fit ah ah ah,fun _ i q _=>(h.zero.aeN i).ZG q ah ah ah,
  fun _=>h.zero.wakes.fit ah ah ah,fun _ _=>h.zero.wakes.acz ah ah ah,fun _=>h.zero.wakes.goes.now⟩
end
theorem Bd.kI{mem:Int}{im:List ByteArray}{ou ins:List bf.Ch}{now:Int}(hm:wfi mem)(h1:im.length≤8796093022208)(h2:ou.length≤1000000)(h3:ins.length≤1000000)(h4:∀x∈im,x.size≤9223372036854775807)(h5:∀x∈ins,x.2.2.2.2≤8)(h7:∀x∈ou,Px x)(h8:∀x∈ins,Px x)
  (h6:0≤now∧now≤18446744073709551615):Bd 0 0 0 (kI mem im ou ins now):=by
 have hb:∀x∈List.replicate ins.length bxZ,x.ms.length≤8∧∀m∈x.ms,Ur m:=by
  intro x hx
  rw[(List.mem_replicate.1 hx).2]
  exact⟨by simp[bxZ],by simp[bxZ]⟩
 refine⟨Pb.nil,Nat.le_refl _,Nat.le_refl _,Nat.le_refl _,Nat.le_refl _,Nat.le_refl _,Nat.le_refl _,?_,hb,?_,?_,?_,h1,h2,h3,?_,h6,h4,h5,?_,?_,?_,h7,h8⟩
 ·exact Nat.le_refl 0
 ·intro m hm;cases hm
 ·intro x hx;cases hx
 ·unfold Go.Proofs.YtgmodehldmahiaaGreatDoor.kI EN;dsimp only;rw[List.length_replicate];exact h3
 ·unfold Go.Proofs.YtgmodehldmahiaaGreatDoor.kI EN;dsimp only
  have:=lM.1 hm
  split
  ·decide
  ·exact hm
 ·intro x hx;cases hx
 ·intro x hx;cases hx
 ·intro x hx;cases hx
theorem Bd.ail{mem:Int}{im:List ByteArray}{ou ins:List bf.Ch}{now:Int}(hm:wfi mem)(h1:im.length≤8796093022208)(h2:ou.length≤1000000)(h3:ins.length≤1000000)(h4:∀x∈im,x.size≤9223372036854775807)(h5:∀x∈ins,x.2.2.2.2≤8)(h7:∀x∈ou,Px x)(h8:∀x∈ins,Px x)
  (h6:0≤now∧now≤18446744073709551615):Bd 1 0 0 (jk mem im ou ins now):=by
 have hb:=Bd.kI hm h1 h2 h3 h4 h5 h7 h8 h6
 have hr:Bd 1 0 0 (wF (Go.Proofs.YtgmodehldmahiaaGreatDoor.kI mem im ou ins now)).1:=by
  unfold wF
  split
  ·exact hb.fresh (Qo aB _)
  ·exact hb.mono ah ah ah
 unfold jk
 split
 ·exact hr
 ·exact{hr with}
section
variable {a e c:Nat} {k:Kn}
theorem Bd.reset(h:Bd a e c k){mem:Int}(hm:wfi mem):Bd (a+1) e c (rQ mem k):=by
 have hb:=(Bd.ail (now:=k.now) hm h.im h.ou h.ins h.dZ h.dep h.ow h.iw h.now)
 have h2:=hb.mono (a':=a+1) (e':=e) (c':=c) ah ah ah
 have h3:=h.mono (a':=a+1) (e':=e) (c':=c) ah ah ah
 exact{h2 with bx:=h3.bx,co:=h3.co,tr:=h3.tr,se:=h3.se,TN:=h3.TN,ses:=h3.ses,tw:=h3.tw}
theorem Bd.looks(h:Bd a e c k){x:DN}(hm:wfi x.1)(st bo:Int):Bd (a+1) e c (dU x k st bo).1:=by
 have h1:=h.mono (a':=a+1) (e':=e) (c':=c) ah ah ah
 unfold dU
 repeat' split
 ·exact h1
 ·exact h1
 ·exact h.reset hm
 ·exact h1
theorem Bd.M4(h:Bd a e c k){mem:Int}(hm:wfi mem):oJ mem k:=
 ⟨(Bd.kI hm h.im h.ou h.ins h.dZ h.dep h.ow h.iw h.now).fit ah ah ah,zA _ _,by have:=h.im;omega,h.ou,h.ins⟩
theorem Bd.cycle(h:Bd a e c k)(hc:c≤8){x:DN}(hm:wfi x.1)(st bo:Int):Bd (a+2*e+24) (e+1) 8 (lC x k st bo).1:=by
 unfold lC
 split
 ·exact h.step.looks hm _ _
 ·exact Mf
theorem acv{k:Kn}(h:∀x∈k.ins,x.2.2.2.2≤8)(n:Int):(sO k n).2.2.2.2≤8:=by
 unfold sO
 rw[List.getD_eq_getElem?_getD]
 cases hb:k.ins[n.toNat]? with
 |none=>show(0:Int)≤8;decide
 |some x=>exact h x (List.mem_of_getElem? hb)
theorem ab'{ch:bf.Ch}(hd:ch.2.2.2.2≤8){ms:List Ms}(h8:ms.length≤8)(hm:∀m∈ms,Ur m)(lost:Int){now:Int}(hn:U64 now){body:ByteArray}(hb:body.size≤9223372036854775807):
  (rP ch ms lost now body).1.length≤8∧∀m∈(rP ch ms lost now body).1,Ur m:=by
 unfold rP
 repeat' split
 ·exact⟨h8,hm⟩
 ·refine⟨aI,fun m hx=>?_⟩
  rw[List.mem_singleton] at hx;subst hx;exact⟨hn,hb⟩
 ·rename_i hl
  refine⟨by simp only[List.length_append,List.length_cons,List.length_nil];omega,fun m hx=>?_⟩
  rcases List.mem_append.1 hx with hx|hx
  ·exact hm m hx
  ·rw[List.mem_singleton] at hx;subst hx;exact⟨hn,hb⟩
 ·exact⟨h8,hm⟩
theorem Bd.arrive(h:Bd a e c k)(n:Int){body:ByteArray}(hb:body.size≤9223372036854775807){now:Int}(hn:U64 now):Bd a e c (ji k n body now):=by
 unfold ji
 split
 ·exact h
 ·exact{h with
   bx:=by dsimp only;rw[List.length_set];exact h.bx
   TN:=by
    intro y hy
    have hx:=TG (n:=n) h.TN
    rcases List.mem_or_eq_of_mem_set hy with hy|rfl
    ·exact h.TN y hy
    ·exact ab' (acv h.dep n) hx.1 hx.2 _ hn hb}
end
end Go.Proofs.YtgmodehldmahiaaGreatDoor
end
