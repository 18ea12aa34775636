/- Part 41 of 53 of the proof of topAlone_and_topApart. Conditions: see each. -/
import Derived.Test.YtgmodehldmahiaaGreatDoorB14
import Derived.Test.YtgmodehldmahiaaGreatDoorB34
import Derived.Test.YtgmodehldmahiaaGreatDoorB39
set_option linter.unusedVariables false
set_option linter.unusedSimpArgs false
set_option maxRecDepth 8192
set_option maxHeartbeats 40000000
section
namespace Go.Proofs.YtgmodehldmahiaaGreatDoor
open Go Go.RowKit Go.Tm
def qH(l:List aT.dz):List Int:=l.map (fun p=>p.pid)
structure Pb(l:List aT.dz):Prop where
 nd:(qH l).Nodup
 six:(l.filter (fun p=>decide (p.pid≠0))).length≤6
def Has(l:List aT.dz)(n:Int):Prop:=n=0∨n∈qH l
theorem Pb.nil:Pb []:=⟨by simp[qH],aI⟩
theorem Pb.len{l:List aT.dz}(h:Pb l):l.length≤7:=by
 have h1:∀m:List aT.dz,(qH m).Nodup→m.length≤(m.filter (fun p=>decide (p.pid≠0))).length+(if 0∈qH m then 1 else 0):=by
  intro m
  induction m with
  |nil=>intro _;simp
  |cons x r ih=>
   intro hn
   simp only[qH,List.map_cons,List.nodup_cons] at hn
   have:=ih hn.2
   by_cases hx:x.pid=0
   ·have h0:¬(0∈qH r):=by rw[←hx];exact hn.1
    rw[if_neg h0] at this
    rw[if_pos (by simp[qH,hx]),List.filter_cons_of_neg (by simp[hx]),List.length_cons]
    omega
   ·have h3:(0∈qH (x::r))↔(0∈qH r):=by simp[qH];omega
    rw[List.filter_cons_of_pos (by simp[hx]),List.length_cons,List.length_cons]
    simp only[h3]
    omega
 have:=h1 l h.nd
 have:=h.six
 split at*<;>omega
theorem JR{l:List aT.dz}{p:aT.dz}(h:p.pid∉qH l):(aT.oF l p).Perm (p::l):=by
 rw[aT.NG (by intro x hx he;exact h (by rw[←he];exact List.mem_map.2 ⟨x,hx,rfl⟩))]
 refine(List.perm_middle).trans ?_
 rw[List.takeWhile_append_dropWhile]
theorem PO{l:List aT.dz}{p:aT.dz}(h:p.pid∈qH l):∃(i:Nat) (x:aT.dz),l[i]?=some x∧x.pid=p.pid∧aT.oF l p=l.set i p:=by
 unfold aT.oF
 split
 ·rename_i i hi
  rw[List.findIdx?_eq_some_iff_getElem] at hi
  obtain⟨hi,h2,_⟩:=hi
  exact⟨i,l[i],List.getElem?_eq_getElem hi,Jb,rfl⟩
 ·rename_i hn
  rw[List.findIdx?_eq_none_iff] at hn
  obtain⟨x,hx,he⟩:=List.mem_map.1 h
  have:=hn x hx
  simp[he] at this
theorem Sk{l:List aT.dz}{i:Nat}{x p:aT.dz}(h:l[i]?=some x)(he:x.pid=p.pid):qH (l.set i p)=qH l:=by
 unfold qH
 rw[List.map_set]
 apply List.ext_getElem?
 intro j
 rw[List.getElem?_set]
 split
 ·rename_i hij
  subst hij
  rw[List.getElem?_map,h]
  have:=(List.getElem?_eq_some_iff.1 h).1
  simp[this,he]
 ·rfl
theorem NQ(l:List aT.dz):(l.filter (fun p=>decide (p.pid≠0))).length=((qH l).filter (fun n=>decide (n≠0))).length:=by
 unfold qH
 rw[List.filter_map,List.length_map]
 rfl
theorem Pb.Yv{l m:List aT.dz}(h:Pb l)(e:qH m=qH l):Pb m:=⟨by rw[e];exact h.nd,by rw[NQ,e,←NQ];exact h.six⟩
theorem Sm{l:List aT.dz}{p:aT.dz}(n:Int):n∈qH (aT.oF l p)↔n=p.pid∨n∈qH l:=by
 by_cases h:p.pid∈qH l
 ·obtain⟨i,x,hx,he,e⟩:=PO h
  rw[e,Sk hx he]
  constructor
  ·exact fun h=> .inr h
  ·rintro(rfl|h2)
   ·exact h
   ·exact h2
 ·have:=(JR h).map (fun p=>p.pid)
  rw[show qH (aT.oF l p)=(aT.oF l p).map (fun p=>p.pid) from rfl,this.mem_iff]
  simp[qH]
theorem Has.put{l:List aT.dz}{n:Int}(h:Has l n)(p:aT.dz):Has (aT.oF l p) n:=by
 rcases h with h|h
 ·exact .inl h
 ·exact .inr ((Sm n).2 (.inr h))
theorem Has.self(l:List aT.dz)(p:aT.dz):Has (aT.oF l p) p.pid:= .inr ((Sm _).2 (.inl rfl))
theorem Pb.put{l:List aT.dz}(h:Pb l){p:aT.dz}(hp:Has l p.pid∨l.length<6):Pb (aT.oF l p):=by
 by_cases hm:p.pid∈qH l
 ·obtain⟨i,x,hx,he,e⟩:=PO hm
  rw[e];exact h.Yv (Sk hx he)
 ·have hpm:=JR hm
  refine⟨((hpm.map _).nodup_iff).2 (by simp only[List.map_cons,List.nodup_cons];exact⟨hm,h.nd⟩),?_⟩
  rw[(hpm.filter _).length_eq]
  have h6:=h.six
  rw[List.filter_cons]
  rcases hp with(h0|h1)|h2
  ·simp[h0] at*;exact h6
  ·exact absurd h1 hm
  ·have:=List.length_filter_le (fun p:aT.dz=>decide (p.pid≠0)) l
   split
   ·simp only[List.length_cons];omega
   ·exact h6
theorem Pb.filter{l:List aT.dz}(h:Pb l)(f:aT.dz→Bool):Pb (l.filter f):=
 ⟨h.nd.sublist (List.filter_sublist.map _),Nat.le_trans ((List.filter_sublist.filter _).length_le) h.six⟩
theorem Pb.remove{l:List aT.dz}(h:Pb l)(n:Int):Pb (aT.Aq l n):=h.filter _
theorem Km(l:List aT.dz)(a b:Int):qH (aT.nX l a b)=qH l:=by
 unfold aT.nX qH
 rw[List.map_map]
 apply List.map_congr_left
 intro x _
 simp only[Function.comp,aT.vw]
 split<;>rfl
theorem Pb.aoK{l:List aT.dz}(h:Pb l)(a b:Int):Pb (aT.nX l a b):=h.Yv (Km l a b)
theorem SL(l:List aT.dz)(n:Int):Has l (aT.bK l n).1.pid:=by
 unfold aT.bK
 split
 ·rename_i x hx
  exact .inr (List.mem_map.2 ⟨x,List.mem_of_find?_eq_some hx,rfl⟩)
 ·exact .inl rfl
theorem put_mem{l:List aT.dz}{p x:aT.dz}(h:x∈aT.oF l p):x=p∨x∈l:=by
 by_cases hm:p.pid∈qH l
 ·obtain⟨i,y,hy,he,e⟩:=PO hm
  rw[e] at h
  rcases List.mem_or_eq_of_mem_set h with h|h
  ·exact .inr h
  ·exact .inl h
 ·rcases List.mem_cons.1 ((JR hm).mem_iff.1 h) with h|h
  ·exact .inl h
  ·exact .inr h
structure uL(l:List aT.dz)(p:aT.dz):Prop where
 has:Has l p.pid
 wf:aT.Bc p
theorem ajv{p:aT.dz}(h:aT.Bc p){st:Int}(hs:qK st)(q:Pf):aT.Bc (BH p.pid p.par st q):=⟨by rw[DR];exact h.1,by rw[Ia];exact h.2.1,by rw[Pv];exact hs⟩
theorem DN{l:List aT.dz}{p:aT.dz}(h:uL l p){st:Int}(hs:qK st)(q:Pf):uL l (BH p.pid p.par st q):=⟨by rw[DR];exact h.has,ajv h.wf hs q⟩
theorem aa'{l:List aT.dz}(h:∀x∈l,aT.Bc x)(n:Int):uL l (aT.bK l n).1:=by
 refine⟨SL l n,?_⟩
 unfold aT.bK
 split
 ·rename_i x hx
  exact h x (List.mem_of_find?_eq_some hx)
 ·exact⟨rfl,rfl,rfl⟩
theorem nY{n:Int}:qK n↔-9223372036854775808≤n∧n≤9223372036854775807:=by
 unfold qK
 simp[Lit.wf,IntKind.min,IntKind.max,IntKind.signed,IntKind.bits]
theorem take_len(size:Int)(l:List Heap.Sp)(n who:Int):(Heap.ig size l n who).1.length≤l.length+1:=by
 unfold Heap.ig
 split
 ·dsimp only;omega
 ·split
  ·dsimp only
   unfold Heap.ins
   rw[List.length_append,List.length_cons]
   rename_i x _
   have:(l.takeWhile (fun y=>decide (y.1<x.1))).length+(l.dropWhile (fun y=>decide (y.1<x.1))).length=l.length:=by
    rw[←List.length_append,List.takeWhile_append_dropWhile]
   dsimp only
   omega
  ·dsimp only;omega
theorem TM(l:List Heap.Sp)(who:Int):(Heap.iX l who).length≤l.length:=List.length_filter_le ..
theorem agF{size:Int}{l:List Heap.Sp}{n who:Int}(hs:qK size)(hn:qK n)(hw:qK who)(hl:∀x∈l,Heap.Dj x):∀x∈(Heap.ig size l n who).1,Heap.Dj x:=by
 unfold Heap.ig
 split
 ·exact hl
 ·rename_i hc
  have hr:Heap.tQ size l:=by
   apply Classical.byContradiction
   intro h
   exact hc (.inr (Heap.lq h))
  split
  ·rename_i x hx
   have hm:=List.mem_of_find?_eq_some hx
   obtain⟨l1,l2,e,g1,g2,g3,_⟩:=Heap.GD hr.1 hr.2 hm
   have h0:0≤Heap.oQ 0 l1:=by
    have hr1:Heap.jX size 0 l1:=by have:=hr.1;rw[e,Heap.pV] at this;exact this.1
    exact(Heap.qo hr1 hr.2).1
   have hsz:=nY.1 hs
   intro y hy
   dsimp only at hy
   unfold Heap.ins at hy
   rcases List.mem_append.1 hy with hy|hy
   ·exact hl y ((List.takeWhile_sublist _).subset hy)
   ·rcases List.mem_cons.1 hy with rfl|hy
    ·exact⟨nY.2 ⟨nG,nG⟩,hn,hw⟩
    ·exact hl y ((List.dropWhile_sublist _).subset hy)
  ·exact hl
def U64(n:Int):Prop:=0≤n∧n≤18446744073709551615
def agq(x:Ev):Prop:=qK x.1∧dI x.2.1∧dI x.2.2.1∧U64 x.2.2.2
def Mj(x:aW.Ch):Prop:=qK x.1∧qK x.2.1∧qK x.2.2.1∧qK x.2.2.2.1∧qK x.2.2.2.2
def OI(m:Ms):Prop:=U64 m.1∧m.2.size≤9223372036854775807
theorem VI{n:Int}(h:U64 n):(Lit.int .u64 n).wf=true:=by
 unfold U64 at h
 simp[Lit.wf,IntKind.min,IntKind.max,IntKind.signed,IntKind.bits]
 omega
structure Bd(a e c:Nat)(k:Kn):Prop where
 P:Pb k.P
 L:k.L.length≤a
 S:k.S.length≤e
 Pi:k.Pi.length≤a
 H:k.H.length≤a
 tr:k.tr.length≤a
 se:k.se.length≤c
 co:k.co.size≤a
 XC:∀x∈k.bx,x.ms.length≤8∧∀m∈x.ms,OI m
 ses:∀m∈k.se,qK m.1∧m.2.size≤9223372036854775807
 hw:∀x∈k.H,Heap.Dj x
 bx:k.bx.length≤1000000
 im:k.im.length≤8796093022208
 ou:k.ou.length≤1000000
 ins:k.ins.length≤1000000
 hs:qK k.hs
 now:0≤k.now∧k.now≤18446744073709551615
 dx:∀x∈k.im,x.size≤9223372036854775807
 dep:∀x∈k.ins,x.2.2.2.2≤8
 pw:∀x∈k.P,aT.Bc x
 sw:∀x∈k.S,Sleep.ab_ x
 tw:∀x∈k.tr,agq x
 ow:∀x∈k.ou,Mj x
 iw:∀x∈k.ins,Mj x
theorem Bd.mono{a e c a' e' c':Nat}{k:Kn}(h:Bd a e c k)(ha:a≤a')(he:e≤e')(hc:c≤c'):Bd a' e' c' k:=
 {h with L:=Nat.le_trans h.L ha,S:=Nat.le_trans h.S he,Pi:=Nat.le_trans h.Pi ha,H:=Nat.le_trans h.H ha,tr:=Nat.le_trans h.tr ha,se:=Nat.le_trans h.se hc,co:=Nat.le_trans h.co ha}
theorem Bd.fit{a e c:Nat}{k:Kn}(h:Bd a e c k)(ha:a≤1000000000)(he:e≤1000000000)(hc:c≤1000000000):Fit k:=
 ⟨by have:=h.P.len;omega,Nat.le_trans h.L ha,Nat.le_trans h.S he,Nat.le_trans h.Pi ha,Nat.le_trans h.H ha,Nat.le_trans h.tr ha,Nat.le_trans h.se hc,by have:=h.bx;omega,by have:=h.im;omega,by have:=h.ou;omega,by have:=h.ins;omega,
  Nat.le_trans h.co ha,h.hs,h.hw,h.now,h.dx,fun x hx=>⟨by have:=(h.XC x hx).1;omega,fun m hm=>((h.XC x hx).2 m hm).2⟩⟩
section
variable {a e c:Nat} {k:Kn}
theorem Bd.afU(h:Bd a e c k){p:aT.dz}(hp:uL k.P p):Bd a e c {k with P:=aT.oF k.P p}:=
 {h with
  P:=h.P.put (.inl hp.has)
  pw:=fun x hx=>by
   rcases put_mem hx with rfl|hx
   ·exact hp.wf
   ·exact h.pw x hx}
theorem Bd.find(h:Bd a e c k)(n:Int):uL k.P (aT.bK k.P n).1:=aa' h.pw n
theorem Bd.answer(h:Bd a e c k){p:aT.dz}(hp:uL k.P p){x:qJ}(hx:jB x){v:Int}(hv:dI v)(er:Int):Bd (a+1) e c (dA k p x v er):=by
 have h1:=h.afU (p:=akV p (Call.tF er v)) (DN hp aC _)
 have h2:=h1.mono (Nat.le_succ a) (Nat.le_refl e) (Nat.le_refl c)
 exact{h2 with
  tr:=by have:=h.tr;unfold dA;simp only[List.length_append,List.length_cons,List.length_nil];omega
  tw:=by
   intro y hy
   rcases List.mem_append.1 hy with hy|hy
   ·exact h.tw y hy
   ·rw[List.mem_singleton] at hy
    subst hy
    exact⟨hp.wf.1,hx.1,nW hv,h.now⟩}
theorem Bd.add(h:Bd a e c k)(n:Int):Bd (a+1) e c (abX k n):=by
 have h2:=h.mono (Nat.le_succ a) (Nat.le_refl e) (Nat.le_refl c)
 exact{h2 with
  L:=by
   have:=h.L
   unfold abX ji.rG
   split
   ·dsimp only;omega
   ·simp only[List.length_append,List.length_cons,List.length_nil];omega}
theorem Nt(l:List Int)(n:Int):(ji.tK l n).1.length=l.length:=by
 unfold ji.tK
 split
 ·rfl
 ·simp
theorem ZW(l:List Int)(n:Int):(ji.wU l n).1.length=l.length:=by
 unfold ji.wU
 split
 ·rfl
 ·split
  ·exact Nt ..
  ·rfl
theorem Bd.yield(h:Bd a e c k):Bd a e c (Jt k):={h with L:=by unfold Jt;dsimp only;rw[Nt];exact h.L}
theorem Bd.ajs(h:Bd a e c k):Bd a e c (EW k):={h with L:=by unfold EW;dsimp only;rw[ZW];exact h.L}
theorem SV(l:List Int)(n pid:Int):(ji.iX l n pid).1.length≤l.length:=by
 unfold ji.iX
 split
 ·exact List.length_filter_le ..
 ·exact Nat.le_refl _
theorem Bd.stop(h:Bd a e c k){p:aT.dz}(hp:uL k.P p){st:Int}(hs:qK st)(x:qJ):Bd a e c (ze k p st x):=by
 have h1:=h.afU (p:=BH p.pid p.par st {pq p with x:=x}) (DN hp hs _)
 exact{h1 with L:=by unfold ze;exact Nat.le_trans (SV ..) h.L}
theorem Xu(l:List Sleep.Al)(x:Sleep.Al):(Sleep.rG l x).length=l.length+1:=by
 unfold Sleep.rG
 rw[List.length_append,List.length_cons]
 have:(l.takeWhile (fun y=>!Sleep.behind y x)).length+(l.dropWhile (fun y=>!Sleep.behind y x)).length=l.length:=by
  rw[←List.length_append,List.takeWhile_append_dropWhile]
 omega
theorem Xt{l:List Sleep.Al}{x y:Sleep.Al}(h:y∈Sleep.rG l x):y=x∨y∈l:=by
 unfold Sleep.rG at h
 rcases List.mem_append.1 h with h|h
 ·exact .inr ((List.takeWhile_sublist _).subset h)
 ·rcases List.mem_cons.1 h with h|h
  ·exact .inl h
  ·exact .inr ((List.dropWhile_sublist _).subset h)
theorem Bd.sleep(h:Bd a e c k){p:aT.dz}(hp:uL k.P p){x:qJ}(hx:jB x):Bd a (e+1) c (Jz k p x):=by
 have hs:=h.stop hp (st:=3) aC x
 have h1:=hs.mono (Nat.le_refl a) (Nat.le_succ e) (Nat.le_refl c)
 exact{h1 with
  S:=by unfold Jz;dsimp only;rw[Xu];exact Nat.succ_le_succ hs.S
  sw:=by
   intro y hy
   rcases Xt hy with rfl|hy
   ·have h2:=hs.now
    have h3:=hx.2.1.1
    exact⟨VI ⟨nG,nG⟩,hp.wf.1⟩
   ·exact hs.sw y hy}
theorem Bd.want(h:Bd a e c k)(n:Int):Bd a e c {k with want:=n}:={h with}
theorem Bd.ends(h:Bd a e c k)(pid code gone:Int):Bd a e c (qV k pid code gone):=by
 unfold qV
 split
 ·exact{h with P:=Pb.nil,L:=Nat.zero_le _,S:=Nat.zero_le _,Pi:=Nat.zero_le _,H:=Nat.zero_le _,hw:=Jf,pw:=Jf,sw:=Jf}
 ·have hb:Bd a e c {k with Pi:=Di k.Pi (pq (aT.bK k.P pid).1) 4,H:=Heap.iX k.H pid,L:=(ji.iX k.L k.left pid).1,left:=(ji.iX k.L k.left pid).2,S:=Sleep.iX k.S pid,P:=aT.nX k.P pid 1}:=
   {h with
    P:=h.P.aoK pid 1
    L:=Nat.le_trans (SV ..) h.L
    S:=Nat.le_trans (List.length_filter_le ..) h.S
    Pi:=by dsimp only;rw[J5];exact h.Pi
    H:=Nat.le_trans (TM ..) h.H
    hw:=fun x hx=>h.hw x (List.mem_filter.1 hx).1
    sw:=fun x hx=>h.sw x (List.mem_filter.1 hx).1
    pw:=fun x hx=>by
         unfold aT.nX at hx
         obtain⟨y,hy,rfl⟩:=List.mem_map.1 hx
         have:=h.pw y hy
         unfold aT.vw
         split
         ·exact⟨this.1,rfl,this.2.2⟩
         ·exact this}
  dsimp only
  split
  ·exact{hb with P:=hb.P.remove pid,pw:=fun x hx=>hb.pw x (List.mem_filter.1 hx).1}
  ·refine hb.afU (DN ⟨?_,(h.find pid).wf⟩ aC _)
   have:=SL k.P pid
   unfold Has at*
   dsimp only
   rw[Km]
   exact this
theorem Bd.fresh(h:Bd a e c k){p:aT.dz}(hp:aT.Bc p):Bd (a+1) e c (eZ k p).1:=by
 have h2:=h.mono (Nat.le_succ a) (Nat.le_refl e) (Nat.le_refl c)
 unfold eZ
 split
 ·exact h2
 ·rename_i h6
  dsimp only
  split
  ·have hl:=h.L
   have hh:=h.H
   exact{h2 with
    P:=h.P.put (.inr aj)
    H:=Nat.le_trans (take_len ..) (Nat.succ_le_succ h.H)
    Pi:=by dsimp only;rw[J4];exact h2.Pi
    L:=by
     unfold ji.rG
     split
     ·dsimp only;omega
     ·simp only[List.length_append,List.length_cons,List.length_nil];omega
    hw:=agF h.hs aC (wrap64_wf _) h.hw
    pw:=fun x hx=>by
     rcases put_mem hx with rfl|hx
     ·exact⟨by rw[DR];exact wrap64_wf _,by rw[Ia];exact hp.2.1,by rw[Pv];decide⟩
     ·exact h.pw x hx}
  ·exact h2
end
end Go.Proofs.YtgmodehldmahiaaGreatDoor
end
section
namespace Go.Proofs.YtgmodehldmahiaaGreatDoor
open Go Go.RowKit Go.Tm
theorem PE(n:Int):dI (n%4294967296):=⟨aj,aj⟩
section
variable (k:Kn) (p:aT.dz) (x:qJ)
theorem ael(h:(y7 k p x).2.2≠0):(y7 k p x).1=k:=by
 revert h;unfold y7;repeat' split
 all_goals intro h;first|rfl|exact absurd rfl h
theorem aeW(h:(zl k p x).2.2≠0):(zl k p x).1=k:=by
 revert h;unfold zl;repeat' split
 all_goals intro h;first|rfl|exact absurd rfl h
theorem ZA(h:(tL k p x).2.2≠0):(tL k p x).1=k:=by
 revert h;unfold tL DJ;repeat' split
 all_goals intro h;first|rfl|exact absurd rfl h
theorem aeR(h:(zk k p x).2.2≠0):(zk k p x).1=k:=by
 revert h;unfold zk;repeat' split
 all_goals intro h;first|rfl|exact absurd rfl h
theorem abh(h:(tO k p x).2.2≠0):(tO k p x).1=k:=by
 revert h;unfold tO;repeat' split
 all_goals intro h;first|rfl|exact absurd rfl h
theorem aeK(h:(zf k p x).2.2≠0):(zf k p x).1=k:=by
 revert h;unfold zf JA;repeat' split
 all_goals intro h;first|rfl|exact absurd rfl h
theorem aeP(h:(zi k p x).2.2≠0):(zi k p x).1=k:=by
 revert h;unfold zi;repeat' split
 all_goals intro h;first|rfl|exact absurd rfl h
theorem afo(h:(gu k p x).2.2≠0):(gu k p x).1=k:=by
 revert h;unfold gu;repeat' split
 all_goals intro h;first|rfl|exact ael k p x h|exact aeW k p x h|exact ZA k p x h|exact aeR k p x h|exact abh k p x h|exact aeK k p x h|exact aeP k p x h|exact absurd rfl h
theorem alb:dI (y7 k p x).2.1:=by
 unfold y7
 exact IZ
theorem alu:dI (zl k p x).2.1:=by
 unfold zl
 exact IZ
theorem ags:dI (tL k p x).2.1:=by
 unfold tL DJ
 exact IZ
theorem alq:dI (zk k p x).2.1:=by
 unfold zk
 exact IZ
theorem ahs:dI (tO k p x).2.1:=by
 unfold tO
 exact IZ
theorem alo:dI (zf k p x).2.1:=by
 unfold zf JA
 exact IZ
theorem alp:dI (zi k p x).2.1:=by
 unfold zi
 exact IZ
theorem iU{α:Sort _}{c:Prop} [Decidable c] {a b:α}(M:α→Prop)(h1:c→M a)(h2:¬c→M b):M (if c then a else b):=by
 by_cases h:c
 ·rw[if_pos h];exact h1 h
 ·rw[if_neg h];exact h2 h
theorem VX:dI (gu k p x).2.1:=by
 unfold gu
 refine iU (fun r:Kn×Int×Int=>dI r.2.1) (fun _=>alb k p x) fun _=>?_
 refine iU (fun r:Kn×Int×Int=>dI r.2.1) (fun _=>PE _) fun _=>?_
 refine iU (fun r:Kn×Int×Int=>dI r.2.1) (fun _=>PE _) fun _=>?_
 refine iU (fun r:Kn×Int×Int=>dI r.2.1) (fun _=>kF) fun _=>?_
 refine iU (fun r:Kn×Int×Int=>dI r.2.1) (fun _=>alu k p x) fun _=>?_
 refine iU (fun r:Kn×Int×Int=>dI r.2.1) (fun _=>ags k p x) fun _=>?_
 refine iU (fun r:Kn×Int×Int=>dI r.2.1) (fun _=>alq k p x) fun _=>?_
 refine iU (fun r:Kn×Int×Int=>dI r.2.1) (fun _=>ahs k p x) fun _=>?_
 refine iU (fun r:Kn×Int×Int=>dI r.2.1) (fun _=>alo k p x) fun _=>?_
 refine iU (fun r:Kn×Int×Int=>dI r.2.1) (fun _=>alp k p x) fun _=>?_
 exact kF
end
theorem ae3(m:ByteArray)(a n:Int):(vN m a n).1.size≤m.size:=by
 unfold vN
 split
 ·dsimp only;rw[ByteArray.size_extract];omega
 ·exact Nat.zero_le _
section
variable {a e c:Nat} {k:Kn} {p:aT.dz}
theorem Bd.up(h:Bd a e c k):Bd (a+1) e (c+1) k:=h.mono aj aj aj
theorem Bd.Rw(h:Bd a e c k)(hp:uL k.P p)(q:Pf):Bd a e c {k with P:=aT.oF k.P (BH p.pid p.par p.st q)}:=h.afU (DN hp hp.wf.2.2 q)
theorem Bd.wait(h:Bd a e c k)(x:qJ):Bd (a+1) e (c+1) (y7 k p x).1:=by
 unfold y7;repeat' split
 ·exact{h.up with P:=h.P.remove _,pw:=fun x hx=>h.pw x (List.mem_filter.1 hx).1}
 ·exact h.up
 ·exact h.up
theorem Bd.put(h:Bd a e c k)(x:qJ):Bd (a+1) e (c+1) (Ze k p x).1:=by
 unfold Ze
 exact{h.up with co:=by have:=h.co;dsimp only;rw[ByteArray.size_append];show k.co.size+1≤a+1;omega}
theorem Bd.pipe(h:Bd a e c k)(hp:uL k.P p)(x:qJ):Bd (a+1) e (c+1) (zl k p x).1:=by
 unfold zl;repeat' split
 ·exact{h.up.Rw hp _ with Pi:=Nat.le_trans (Pipe.aaz _) (Nat.succ_le_succ h.Pi)}
 ·exact h.up
 ·exact h.up
 ·exact h.up
theorem Bd.sF(h:Bd a e c k)(n:Int)(v:Value):Bd a e c (sF k n v):={h with Pi:=by unfold Go.Proofs.YtgmodehldmahiaaGreatDoor.sF;dsimp only;rw[List.length_set];exact h.Pi}
theorem Bd.write(h:Bd a e c k)(x:qJ):Bd (a+1) e (c+1) (tL k p x).1:=by
 unfold tL DJ;repeat' split
 ·exact h.up.sF _ _
 ·exact h.up
 ·exact h.up
 ·exact h.up
theorem Bd.read(h:Bd a e c k)(hp:uL k.P p)(x:qJ):Bd (a+1) e (c+1) (zk k p x).1:=by
 unfold zk;repeat' split
 ·exact(h.up.sF _ _).Rw (k:=Go.Proofs.YtgmodehldmahiaaGreatDoor.sF k _ _) hp _
 ·exact h.up
 ·exact h.up
 ·exact h.up
theorem Bd.close(h:Bd a e c k)(hp:uL k.P p)(x:qJ):Bd (a+1) e (c+1) (tO k p x).1:=by
 unfold tO;repeat' split
 ·exact{h.up.Rw hp _ with Pi:=by dsimp only;rw[Pipe.CG];exact h.up.Pi}
 ·exact h.up
theorem Bd.send(h:Bd a e c k){x:qJ}(hx:jB x):Bd (a+1) e (c+1) (zf k p x).1:=by
 unfold zf JA;repeat' split
 ·exact h.up
 ·exact{h.up with
   se:=by have:=h.se;simp only[List.length_append,List.length_cons,List.length_nil];omega
   ses:=by
    intro m hm
    rcases List.mem_append.1 hm with hm|hm
    ·exact h.ses m hm
    ·rw[List.mem_singleton] at hm
     subst hm
     exact⟨nY.2 ⟨by have:=hx.2.1.1;dsimp only;omega,by have:=hx.2.1.2;dsimp only;omega⟩,Nat.le_trans (ae3 ..) (jR p).mem⟩}
 ·exact h.up
 ·exact h.up
theorem YC{k:Kn}{n:Int}(h:∀x∈k.bx,x.ms.length≤8∧∀m∈x.ms,OI m):(rR k n).ms.length≤8∧∀m∈(rR k n).ms,OI m:=by
 unfold rR
 rw[List.getD_eq_getElem?_getD]
 cases hb:k.bx[n.toNat]? with
 |none=>exact⟨by simp[bx0],by simp[bx0]⟩
 |some x=>exact h x (List.mem_of_getElem? hb)
theorem agG(ch:aW.Ch)(ms:List Ms):(lT ch ms).1.length≤ms.length:=by
 unfold lT
 split
 ·exact Nat.zero_le _
 ·dsimp only
  split
  ·exact Nat.le_refl _
  ·rw[List.length_drop];omega
theorem Bd.recv(h:Bd a e c k)(hp:uL k.P p)(x:qJ):Bd (a+1) e (c+1) (zi k p x).1:=by
 unfold zi;repeat' split
 ·exact h.up
 ·exact{h.up.Rw hp _ with
   bx:=by dsimp only;rw[List.length_set];exact h.bx
   XC:=by
    intro y hy
    have hb:=YC (n:=x.2.1) h.XC
    rcases List.mem_or_eq_of_mem_set hy with hy|rfl
    ·exact h.XC y hy
    ·exact⟨Nat.le_trans (agG ..) hb.1,fun m hm=>hb.2 m (Wm m hm)⟩}
 ·exact h.up
 ·exact h.up
 ·exact h.up
theorem Bd.does(h:Bd a e c k)(hp:uL k.P p){x:qJ}(hx:jB x):Bd (a+1) e (c+1) (gu k p x).1:=by
 unfold gu
 repeat' split
 ·exact h.wait x
 ·exact h.up
 ·exact h.up
 ·exact h.put x
 ·exact h.pipe hp x
 ·exact h.write x
 ·exact h.read hp x
 ·exact h.close hp x
 ·exact h.send hx
 ·exact h.recv hp x
 ·exact h.up
theorem Bd.tr'{r:Kn×Int×Int}(h:Bd a e c r.1)(pid:Int){x:qJ}(hx:jB x)(hv:dI r.2.1):Bd (a+1) e c (Lx r pid x).1:=by
 unfold Lx
 split
 ·exact Rn
 ·exact h.answer (h.find _) hx hv _
theorem Bd.tried(h:Bd a e c k)(pid:Int){x:qJ}(hx:jB x):Bd (a+2) e (c+1) (Lx (gu k (aT.bK k.P pid).1 x) pid x).1:=(h.does (h.find _) hx).tr' pid hx (VX _ _ _)
theorem alh{r:Kn×Int×Int}{pid:Int}{x:qJ}(h:(Lx r pid x).2=false):(Lx r pid x).1=r.1∧r.2.2=6:=by
 unfold Lx at*
 split
 ·rename_i hc;exact⟨rfl,hc.1⟩
 ·rename_i hc;rw[if_neg hc] at h;cases h
theorem Bd.tries(h:Bd a e c k)(hp:uL k.P p){x:qJ}(hx:jB x):Bd (a+2) e (c+1) (Cj k p x).1:=by
 have h1:=h.tried p.pid hx
 unfold Cj
 dsimp only
 split
 ·exact h1
 ·rename_i hf
  rw[Bool.not_eq_true] at hf
  obtain⟨e1,e2⟩:=alh hf
  refine h1.stop ?_ aC x
  rw[e1,afo _ _ _ (by rw[e2];decide)]
  exact hp
theorem aa5{n:Int}(h:Has k.P n)(q:aT.dz):Has (eZ k q).1.P n:=by
 unfold eZ
 split
 ·exact h
 ·dsimp only
  split
  ·exact h.put _
  ·exact h
theorem Ku(h:uL k.P p)(q:aT.dz):uL (eZ k q).1.P p:=⟨aa5 h.has q,h.wf⟩
theorem Yz(h:aT.Bc p):aT.Bc (pR p):=⟨by unfold pR;rw[DR];exact h.1,by unfold pR;rw[Ia];exact h.1,by unfold pR;rw[Pv];exact h.2.2⟩
theorem VP{n:Int}(h:qK n)(m:ByteArray):aT.Bc (sO n m):=⟨by unfold sO;rw[DR];decide,by unfold sO;rw[Ia];exact h,by unfold sO;rw[Pv];decide⟩
theorem Bd.kill(h:Bd a e c k)(hp:uL k.P p){x:qJ}(hx:jB x):Bd (a+2) (e+1) (c+1) (Bz k p x).1:=by
 unfold Bz
 repeat' split
 ·exact(h.answer hp hx kF _).mono aj aj aj
 ·exact(h.answer hp hx kF _).mono aj aj aj
 ·exact(h.ends _ _ _).mono aj aj aj
 ·exact((h.ends _ _ _).answer ((h.ends _ _ _).find _) hx kF _).mono aj aj aj
theorem Bd.ask(h:Bd a e c k)(hp:uL k.P p){x:qJ}(hx:jB x):Bd (a+2) (e+1) (c+1) (IL k p x).1:=by
 have hA:=fun er=>(h.answer hp hx kF er).mono (a':=a+2) (e':=e+1) (c':=c+1) aj aj aj
 unfold IL
 refine iU (fun r:Kn×Bool=>Bd (a+2) (e+1) (c+1) r.1) (fun _=>(h.ends _ _ _).mono (a':=a+2) (e':=e+1) (c':=c+1) aj aj aj) fun _=>?_
 refine iU (fun r:Kn×Bool=>Bd (a+2) (e+1) (c+1) r.1) (fun _=>(h.answer hp hx kF 0).yield.mono (a':=a+2) (e':=e+1) (c':=c+1) aj aj aj) fun _=>?_
 refine iU (fun r:Kn×Bool=>Bd (a+2) (e+1) (c+1) r.1) (fun _=>iU (fun r:Kn×Bool=>Bd (a+2) (e+1) (c+1) r.1) (fun _=>(h.sleep hp hx).mono (a':=a+2) (e':=e+1) (c':=c+1) aj aj aj) fun _=>hA 0) fun _=>?_
 refine iU (fun r:Kn×Bool=>Bd (a+2) (e+1) (c+1) r.1) (fun _=>iU (fun r:Kn×Bool=>Bd (a+2) (e+1) (c+1) r.1) (fun _=>hA 1) fun _=>((h.want (3+x.2.1)).answer hp hx kF 0).mono (a':=a+2) (e':=e+1) (c':=c+1) aj aj aj) fun _=>?_
 refine iU (fun r:Kn×Bool=>Bd (a+2) (e+1) (c+1) r.1) (fun _=>((h.want (wrap64 (wrap64 (k.want+1)+1))).answer hp hx kF 0).mono (a':=a+2) (e':=e+1) (c':=c+1) aj aj aj) fun _=>?_
 refine iU (fun r:Kn×Bool=>Bd (a+2) (e+1) (c+1) r.1) (fun _=>((h.want (wrap64 (k.want+1))).answer hp hx kF 0).mono (a':=a+2) (e':=e+1) (c':=c+1) aj aj aj) fun _=>?_
 refine iU (fun r:Kn×Bool=>Bd (a+2) (e+1) (c+1) r.1) (fun _=>h.kill hp hx) fun _=>?_
 refine iU (fun r:Kn×Bool=>Bd (a+2) (e+1) (c+1) r.1) (fun _=>((h.fresh (Yz hp.wf)).answer (Ku hp _) hx (D9 _ _) _).mono (a':=a+2) (e':=e+1) (c':=c+1) aj aj aj) fun _=>?_
 refine iU (fun r:Kn×Bool=>Bd (a+2) (e+1) (c+1) r.1) (fun _=>iU (fun r:Kn×Bool=>Bd (a+2) (e+1) (c+1) r.1) (fun _=>((h.fresh (VP hp.wf.1 _)).answer (Ku hp _) hx (D9 _ _) _).mono (a':=a+2) (e':=e+1) (c':=c+1) aj aj aj) fun _=>hA _) fun _=>?_
 refine iU (fun r:Kn×Bool=>Bd (a+2) (e+1) (c+1) r.1) (fun _=>iU (fun r:Kn×Bool=>Bd (a+2) (e+1) (c+1) r.1) (fun _=>(h.answer (p:=Dz p _) (DN hp hp.wf.2.2 _) hx kF 0).mono (a':=a+2) (e':=e+1) (c':=c+1) aj aj aj) fun _=>hA _) fun _=>?_
 exact(h.tries hp hx).mono (a':=a+2) (e':=e+1) (c':=c+1) aj aj aj
theorem Bd.amb(h:Bd a e c k)(hp:uL k.P p){x:qJ}(hx:jB x)(ha:a+2≤1000000000)(he:e+1≤1000000000)(hc:c+1≤1000000000):PD k p x:=
 ⟨fun _=>(h.ends _ _ _).fit aj aj aj,
  fun _=>⟨(h.fresh (Yz hp.wf)).fit aj aj aj,nW (D9 _ _)⟩,
  fun _ _=>⟨(h.fresh (VP hp.wf.1 _)).fit aj aj aj,nW (D9 _ _)⟩,
  CB _ _,
  (h.does (h.find _) hx).fit aj aj aj,
  nW (VX _ _ _),
  (h.tried p.pid hx).fit aj aj aj⟩
theorem Bd.ran(h:Bd a e c k)(hp:uL k.P p):Bd a e c (vM k p):=h.Rw hp _
theorem Fq(p:aT.dz):jB (sS (lM (pq p).c (pq p).mem).1):=SI (yL (jR p).c (D7 p)).1
theorem PN(hp:uL k.P p):uL (vM k p).P (xY p):=⟨by unfold vM;exact Has.self _ _,ajv hp.wf hp.wf.2.2 _⟩
theorem Bd.goes(h:Bd a e c k):Bd (a+2) (e+1) (c+1) (t_ k):=by
 unfold t_
 split
 ·exact Rn
 ·have hp:=h.find (k.L.headD 0)
  have hr:=h.ran hp
  have ha:=hr.ask (p:=xY (aT.bK k.P (k.L.headD 0)).1) (PN hp) (Fq (aT.bK k.P (k.L.headD 0)).1)
  unfold RH
  split
  ·exact hr.ajs.mono aj aj aj
  split
  ·split
   ·exact ha.ajs
   ·exact ha
  ·exact(h.ends _ _ _).mono aj aj aj
theorem Bd.ag9(h:Bd a e c k)(ha:a+2≤1000000000)(he:e+1≤1000000000)(hc:c+1≤1000000000):P8 k:=
 have hp:=h.find (k.L.headD 0)
 ⟨(h.ran hp).fit aj aj aj,fun _=>(h.ran hp).amb (PN hp) (Fq _) ha he hc,fun _=>Nat.le_trans ((h.ran hp).ask (PN hp) (Fq _)).L aj⟩
theorem Bd.F6(h:Bd a e c k)(n:Int):Bd (a+2) e c (F6 k n):=by
 unfold Go.Proofs.YtgmodehldmahiaaGreatDoor.F6
 split
 ·exact(h.answer (h.find _) (jR _).x kF 0).add n
 ·exact Rn
theorem Bd.lD(l:List Int):∀{a:Nat} {k:Kn},Bd a e c k→Bd (a+2*l.length) e c (lD k l):=by
 induction l with
 |nil=>intro a k h;exact h
 |cons n r ih=>
  intro a k h
  have:=ih (h.F6 n)
  exact this.mono Vk (Nat.le_refl _) (Nat.le_refl _)
theorem Bd.F5(h:Bd a e c k)(q:aT.dz):Bd (a+3) e (c+1) (F5 k q):=by
 unfold Go.Proofs.YtgmodehldmahiaaGreatDoor.F5
 split
 ·split
  ·exact(h.tried q.pid (jR q).x).add _
  ·exact(h.tried q.pid (jR q).x).mono aj aj aj
 ·exact Rn
theorem Bd.uY(l:List aT.dz):∀{a c:Nat} {k:Kn},Bd a e c k→Bd (a+3*l.length) e (c+l.length) (uY k l):=by
 induction l with
 |nil=>intro a c k h;exact h
 |cons n r ih=>
  intro a c k h
  have:=ih (h.F5 n)
  exact this.mono Vk (Nat.le_refl _) Vk
theorem Bd.aek(h:Bd a e c k)(q:aT.dz)(ha:a+2≤1000000000)(he:e≤1000000000)(hc:c+1≤1000000000):Tg k q:=
 ⟨h.fit aj aj aj,fun _=>(h.does (h.find _) (jR q).x).fit aj aj aj,fun _=>nW (VX _ _ _),fun _=>Nat.le_trans (h.tried q.pid (jR q).x).L aj⟩
theorem Bd.zero(h:Bd a e c k):Bd a e 0 (iW k):={h with se:=Nat.le_refl _,ses:=by intro m hm;cases hm}
theorem Bd.rest(h:Bd a e c k):Bd a e c (rQ k):={h with sw:=fun x hx=>h.sw x ((List.dropWhile_sublist _).subset hx),S:=by unfold rQ Sleep.U1;exact Nat.le_trans (List.dropWhile_sublist _).length_le h.S}
theorem ahd(l:List Sleep.Al)(n:Int):(Sleep.um l n).length≤l.length:=by
 unfold Sleep.um
 rw[List.length_map]
 exact(List.takeWhile_sublist _).length_le
theorem Bd.ajo(h:Bd a e 0 k)(i:Nat):Bd (a+2*e) e 0 (Go.Proofs.YtgmodehldmahiaaGreatDoor.lD (rQ k) ((Sleep.um k.S k.now).take i)):=
 ((h.rest).lD _).mono (by have:=ahd k.S k.now;have:=h.S;rw[List.length_take];omega) (Nat.le_refl _) (Nat.le_refl _)
theorem Bd.adT(h:Bd a e 0 k):Bd (a+2*e) e 0 (Go.Proofs.YtgmodehldmahiaaGreatDoor.lD (rQ k) (Sleep.um k.S k.now)):=by
 have:=h.ajo (Sleep.um k.S k.now).length
 rwa[List.take_length] at this
theorem Bd.ajn(h:Bd a e 0 k)(i:Nat):Bd (a+2*e+21) e 7 (Go.Proofs.YtgmodehldmahiaaGreatDoor.uY (Go.Proofs.YtgmodehldmahiaaGreatDoor.lD (rQ k) (Sleep.um k.S k.now)) ((Go.Proofs.YtgmodehldmahiaaGreatDoor.lD (rQ k) (Sleep.um k.S k.now)).P.take i)):=
 (h.adT.uY _).mono ahK (Nat.le_refl _) ahK
theorem Bd.wakes(h:Bd a e 0 k):Bd (a+2*e+21) e 7 (mX k):=by
 have:=h.ajn (Go.Proofs.YtgmodehldmahiaaGreatDoor.lD (rQ k) (Sleep.um k.S k.now)).P.length
 rwa[List.take_length] at this
theorem Bd.zL(h:Bd a e c k):Bd a e c (zL k):={h with now:=by have:=h.now;unfold Go.Proofs.YtgmodehldmahiaaGreatDoor.zL;dsimp only;omega}
theorem Bd.step(h:Bd a e c k):Bd (a+2*e+23) (e+1) 8 (lK k):=by
 unfold lK
 apply Bd.zL
 split
 ·exact h.zero.wakes.goes
 ·exact h.zero.mono aj aj aj
theorem Bd.agO(h:Bd a e c k)(ha:a+2*e+100≤1000000000)(hc:c≤1000000):DX k:=
 ⟨h.fit aj aj aj,fun _ i=>(h.zero.ajo i).fit aj aj aj,fun _ i q _=>(h.zero.ajn i).aek q aj aj aj,
  fun _=>h.zero.wakes.fit aj aj aj,fun _ _=>h.zero.wakes.ag9 aj aj aj,fun _=>h.zero.wakes.goes.now⟩
end
theorem Bd.nC{mem:Int}{im:List ByteArray}{ou ins:List aW.Ch}{now:Int}(hm:qK mem)(h1:im.length≤8796093022208)(h2:ou.length≤1000000)(h3:ins.length≤1000000)(h4:∀x∈im,x.size≤9223372036854775807)(h5:∀x∈ins,x.2.2.2.2≤8)(h7:∀x∈ou,Mj x)(h8:∀x∈ins,Mj x)
  (h6:0≤now∧now≤18446744073709551615):Bd 0 0 0 (nC mem im ou ins now):=by
 have hb:∀x∈List.replicate ins.length bxZ,x.ms.length≤8∧∀m∈x.ms,OI m:=by
  intro x hx
  rw[(List.mem_replicate.1 hx).2]
  exact⟨by simp[bxZ],by simp[bxZ]⟩
 refine⟨Pb.nil,Nat.le_refl _,Nat.le_refl _,Nat.le_refl _,Nat.le_refl _,Nat.le_refl _,Nat.le_refl _,?_,hb,?_,?_,?_,h1,h2,h3,?_,h6,h4,h5,?_,?_,?_,h7,h8⟩
 ·exact Nat.le_refl 0
 ·intro m hm;cases hm
 ·intro x hx;cases hx
 ·unfold Go.Proofs.YtgmodehldmahiaaGreatDoor.nC I9;dsimp only;rw[List.length_replicate];exact h3
 ·unfold Go.Proofs.YtgmodehldmahiaaGreatDoor.nC I9;dsimp only
  have:=nY.1 hm
  split
  ·decide
  ·exact hm
 ·intro x hx;cases hx
 ·intro x hx;cases hx
 ·intro x hx;cases hx
theorem Bd.anm{mem:Int}{im:List ByteArray}{ou ins:List aW.Ch}{now:Int}(hm:qK mem)(h1:im.length≤8796093022208)(h2:ou.length≤1000000)(h3:ins.length≤1000000)(h4:∀x∈im,x.size≤9223372036854775807)(h5:∀x∈ins,x.2.2.2.2≤8)(h7:∀x∈ou,Mj x)(h8:∀x∈ins,Mj x)
  (h6:0≤now∧now≤18446744073709551615):Bd 1 0 0 (kN mem im ou ins now):=by
 have hb:=Bd.nC hm h1 h2 h3 h4 h5 h7 h8 h6
 have hr:Bd 1 0 0 (DC (Go.Proofs.YtgmodehldmahiaaGreatDoor.nC mem im ou ins now)).1:=by
  unfold DC
  split
  ·exact hb.fresh (VP aC _)
  ·exact hb.mono aj aj aj
 unfold kN
 split
 ·exact hr
 ·exact{hr with}
section
variable {a e c:Nat} {k:Kn}
theorem Bd.reset(h:Bd a e c k){mem:Int}(hm:qK mem):Bd (a+1) e c (u_ mem k):=by
 have hb:=(Bd.anm (now:=k.now) hm h.im h.ou h.ins h.dx h.dep h.ow h.iw h.now)
 have h2:=hb.mono (a':=a+1) (e':=e) (c':=c) aj aj aj
 have h3:=h.mono (a':=a+1) (e':=e) (c':=c) aj aj aj
 exact{h2 with bx:=h3.bx,co:=h3.co,tr:=h3.tr,se:=h3.se,XC:=h3.XC,ses:=h3.ses,tw:=h3.tw}
theorem Bd.looks(h:Bd a e c k){x:Il}(hm:qK x.1)(st bo:Int):Bd (a+1) e c (eY x k st bo).1:=by
 have h1:=h.mono (a':=a+1) (e':=e) (c':=c) aj aj aj
 unfold eY
 repeat' split
 ·exact h1
 ·exact h1
 ·exact h.reset hm
 ·exact h1
theorem Bd.Si(h:Bd a e c k){mem:Int}(hm:qK mem):rA mem k:=
 ⟨(Bd.nC hm h.im h.ou h.ins h.dx h.dep h.ow h.iw h.now).fit aj aj aj,CB _ _,by have:=h.im;omega,h.ou,h.ins⟩
theorem Bd.cycle(h:Bd a e c k)(hc:c≤8){x:Il}(hm:qK x.1)(st bo:Int):Bd (a+2*e+24) (e+1) 8 (oZ x k st bo).1:=by
 unfold oZ
 split
 ·exact h.step.looks hm _ _
 ·exact Rn
theorem ag6{k:Kn}(h:∀x∈k.ins,x.2.2.2.2≤8)(n:Int):(vY k n).2.2.2.2≤8:=by
 unfold vY
 rw[List.getD_eq_getElem?_getD]
 cases hb:k.ins[n.toNat]? with
 |none=>show(0:Int)≤8;decide
 |some x=>exact h x (List.mem_of_getElem? hb)
theorem agS{ch:aW.Ch}(hd:ch.2.2.2.2≤8){ms:List Ms}(h8:ms.length≤8)(hm:∀m∈ms,OI m)(lost:Int){now:Int}(hn:U64 now){body:ByteArray}(hb:body.size≤9223372036854775807):
  (uZ ch ms lost now body).1.length≤8∧∀m∈(uZ ch ms lost now body).1,OI m:=by
 unfold uZ
 repeat' split
 ·exact⟨h8,hm⟩
 ·refine⟨aI,fun m hx=>?_⟩
  rw[List.mem_singleton] at hx;subst hx;exact⟨hn,hb⟩
 ·rename_i hl
  refine⟨by simp only[List.length_append,List.length_cons,List.length_nil];omega,fun m hx=>?_⟩
  rcases List.mem_append.1 hx with hx|hx
  ·exact hm m hx
  ·rw[List.mem_singleton] at hx;subst hx;exact⟨hn,hb⟩
 ·exact⟨h8,hm⟩
theorem Bd.amc(h:Bd a e c k)(n:Int){body:ByteArray}(hb:body.size≤9223372036854775807){now:Int}(hn:U64 now):Bd a e c (kZ k n body now):=by
 unfold kZ
 split
 ·exact h
 ·exact{h with
   bx:=by dsimp only;rw[List.length_set];exact h.bx
   XC:=by
    intro y hy
    have hx:=YC (n:=n) h.XC
    rcases List.mem_or_eq_of_mem_set hy with hy|rfl
    ·exact h.XC y hy
    ·exact agS (ag6 h.dep n) hx.1 hx.2 _ hn hb}
end
end Go.Proofs.YtgmodehldmahiaaGreatDoor
end
