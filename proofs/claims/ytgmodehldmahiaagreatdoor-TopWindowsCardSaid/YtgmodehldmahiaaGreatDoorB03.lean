/- Part 3 of 53 of the proof of topAlone_and_topApart. Conditions: see each. -/
import Derived.Test.YtgmodehldmahiaaGreatDoorB01
import Derived.Test.YtgmodehldmahiaaGreatDoorB02
set_option linter.unusedVariables false
set_option linter.unusedSimpArgs false
set_option maxRecDepth 8192
set_option maxHeartbeats 40000000
namespace Go.Tm
open Go Go.RowKit
section
variable {P:Program} {ops:Array Oper} {Q:Exit→Act→World→Prop} {md:Region.Mode} {S:World→Prop} {E:Nat→Bool}
def wpAnyS(P:Program)(md:Region.Mode)(ops:Array Oper)(Q:Exit→Act→World→Prop)(S:World→Prop)(E:Nat→Bool):Nat→Array Bool→Act→World→Prop
 |0,ls,a,w=>Region.ready md ops ls=[]∧Q .normal a w
 |f+1,ls,a,w=>(Region.ready md ops ls=[]→Q .normal a w)∧
  ∀i∈Region.ready md ops ls,wpOp P ops Q i (fun a' w'=>(E i=true→S w')∧wpAnyS P md ops Q S E f (ls.setIfInBounds i true) a' w') a w
theorem J9:∀(f:Nat) (ls:Array Bool) (a:Act) (w:World),wpAnyS P md ops Q S E f ls a w→wpAny P md ops Q f ls a w
 |0,_,_,_,h=>h
 |f+1,_,_,_,h=>⟨h.1,fun i hi=>wpOp_mono (fun a' w' h'=>J9 f _ a' w' h'.2) (h.2 i hi)⟩
def Shut(md:Region.Mode)(ops:Array Oper)(ls:Array Bool):Prop:=∀j oj,ops[j]?=some oj→ls.getD j false=true→∀e∈oj.after,Region.binds md e=true→ls.getD e.on false=true
def ajt(md:Region.Mode)(ops:Array Oper)(ls:Array Bool):Bool:=(List.range ops.size).all fun j=>!ls.getD j false||match ops[j]? with|some oj=>oj.after.all fun e=>!Region.binds md e||ls.getD e.on false|none=>true
theorem Ws{ls:Array Bool}(h:ajt md ops ls=true):Shut md ops ls:=by
 intro j oj hj hl e he hb
 have h1:=List.all_eq_true.1 h j (List.mem_range.2 (Array.getElem?_eq_some_iff.1 hj).1)
 rw[hl] at h1
 simp only[Bool.not_true,Bool.false_or,hj] at h1
 have h2:=Array.all_eq_true_iff_forall_mem.1 h1 e he
 rw[hb] at h2
 simpa using h2
theorem Shut.set{ls:Array Bool}(h:Shut md ops ls){i:Nat}(hi:i∈Region.ready md ops ls):Shut md ops (ls.setIfInBounds i true):=by
 obtain⟨_,oi,hoi,hall⟩:=mem_ready.1 hi
 intro j oj hj hl e he hb
 by_cases hij:i=j
 ·subst hij
  have:oj=oi:=Option.some.inj (hj.symm.trans hoi)
  subst this
  exact getD_set_true (hall e he hb)
 ·rw[getD_set_ne false hij] at hl
  exact getD_set_true (h j oj hj hl e he hb)
inductive Gq(md:Region.Mode)(ops:Array Oper)(i:Nat):Nat→Prop
 |self:Gq md ops i i
 |step {j k:Nat}:Region.waitsFor md ops j k=true→Gq md ops i k→Gq md ops i j
theorem Gq.un{ls:Array Bool}(h:Shut md ops ls){i j:Nat}(hi:ls.getD i false=false)(hw:Gq md ops i j):ls.getD j false=false:=by
 induction hw with
 |self=>exact hi
 |@step j k h1 h2 ih=>
  obtain⟨oj,YK,e,he,hb,hon⟩:=Region.waitsFor_spec h1
  cases hl:ls.getD j false with
  |false=>rfl
  |true=>
   have:=h j oj YK hl e he hb
   rw[hon,ih] at this;cases this
theorem Gq.notReady{ls:Array Bool}(h:Shut md ops ls){i j:Nat}(hi:ls.getD i false=false)(hw:Gq md ops i j)(hne:j≠i):j∉Region.ready md ops ls:=by
 intro hr
 obtain⟨_,oj,YK,hall⟩:=mem_ready.1 hr
 cases hw with
 |self=>exact hne rfl
 |@step _ k h1 h2=>
  obtain⟨oj',apg,e,he,hb,hon⟩:=Region.waitsFor_spec h1
  have:oj'=oj:=Option.some.inj (apg.symm.trans YK)
  subst this
  have h3:=hall e he hb
  rw[hon,h2.un h hi] at h3;cases h3
def tY(md:Region.Mode)(ops:Array Oper)(i:Nat):Nat→Array Bool
 |0=>#[]
 |m+1=>(tY md ops i m).push (m==i||match ops[m]? with|some o=>o.after.any (fun e=>Region.binds md e&&(tY md ops i m).getD e.on false)|none=>false)
theorem Ka(i:Nat):∀m,(tY md ops i m).size=m
 |0=>rfl
 |m+1=>by simp[tY,Ka i m]
theorem Ct(i:Nat):∀m j,(tY md ops i m).getD j false=true→Gq md ops i j
 |0,j,h=>by simp[tY] at h
 |m+1,j,h=>by
  have hs:=Ka (md:=md) (ops:=ops) i m
  by_cases hj:j<m
  ·refine Ct i m j ?_
   simp only[tY,Array.getD_eq_getD_getElem?] at h⊢
   rw[Array.getElem?_push_lt aj] at h
   rw[Array.getElem?_eq_getElem aj]
   exact h
  ·have YN:j=m:=by
    rcases Nat.lt_trichotomy j m with h1|h1|h1
    ·exact absurd h1 hj
    ·exact h1
    ·exfalso
     simp only[tY,Array.getD_eq_getD_getElem?] at h
     rw[Array.getElem?_eq_none (by rw[Array.size_push,hs];omega)] at h
     simp at h
   subst YN
   have hg:(tY md ops i (j+1)).getD j false=(j==i||match ops[j]? with|some o=>o.after.any (fun e=>Region.binds md e&&(tY md ops i j).getD e.on false)|none=>false):=by
    have e:(tY md ops i (j+1))[j]?=some (j==i||match ops[j]? with|some o=>o.after.any (fun e=>Region.binds md e&&(tY md ops i j).getD e.on false)|none=>false):=by
     simp only[tY]
     have:=Array.getElem?_push_size (xs:=tY md ops i j) (x:=(j==i||match ops[j]? with|some o=>o.after.any (fun e=>Region.binds md e&&(tY md ops i j).getD e.on false)|none=>false))
     rwa[hs] at this
    rw[Array.getD_eq_getD_getElem?,e];rfl
   rw[hg] at h
   simp only[Bool.or_eq_true,beq_iff_eq] at h
   rcases h with rfl|h
   ·exact .self
   ·cases ho:ops[j]? with
    |none=>rw[ho] at h;cases h
    |some o=>
     rw[ho] at h
     obtain⟨e,he,hb⟩:=Array.any_eq_true'.1 h
     simp only[Bool.and_eq_true] at hb
     refine .step (k:=e.on) ?_ (Ct i j e.on hb.2)
     unfold Region.waitsFor
     rw[ho]
     exact Array.any_eq_true'.2 ⟨e,he,by simp[hb.1]⟩
def acV(md:Region.Mode)(ops:Array Oper)(E:Nat→Bool)(ls:Array Bool)(i:Nat):Bool:=(List.range ops.size).all fun j=>E j||ls.getD j false||((tY md ops i ops.size).getD j false&&j !=i)
def Sub(ls ls':Array Bool):Prop:=∀j,ls.getD j false=true→ls'.getD j false=true
theorem Wo{i:Nat}{ls0:Array Bool}(h:acV md ops E ls0 i=true){ls:Array Bool}(zC:Sub ls0 ls)(hs:Shut md ops ls)(hi:ls.getD i false=false):∀j∈Region.ready md ops ls,E j=true:=by
 intro j hj
 obtain⟨hun,oj,YK,_⟩:=mem_ready.1 hj
 have h1:=List.all_eq_true.1 h j (List.mem_range.2 (Array.getElem?_eq_some_iff.1 YK).1)
 simp only[Bool.or_eq_true,Bool.and_eq_true,bne_iff_ne,ne_eq] at h1
 rcases h1 with(h1|h1)|⟨h1,h2⟩
 ·exact h1
 ·have:=zC j h1
  rw[getD_both hun] at this;cases this
 ·exact absurd hj ((Ct i _ j h1).notReady hs hi h2)
theorem wpAnyS_first{i:Nat}{oi:Oper}{v:Value}{C:World→Prop}(hi:ops[i]?=some oi)(Ow:∀(j:Nat) (o:Oper) cs b,ops[j]?=some o→o.op≠.select cs b)
  (hQ:∀c a w,Q (.panic c) (a.put oi.dst v) w→Q (.panic c) a w)(ls0:Array Bool)
  (hC:(E i=true∧C=S∧∀ls,Sub ls0 ls→Shut md ops ls→ls.getD i false=false→∀j∈Region.ready md ops ls,E j=true)∨(E i=false∧C=fun _=>True)):
  ∀(f:Nat) (ls:Array Bool) (a:Act) (w:World),Sub ls0 ls→Shut md ops ls→
   (∀j oj,ops[j]?=some oj→j≠i→ls.getD j true=false→(∀e∈oj.after,Region.binds md e=true→e.on≠i)→oi.apart ops oj=true)→
   i∈Region.ready md ops ls→YieldsIf P ops C oi v a→C w→
   wpAnyS P md ops Q S E f (ls.setIfInBounds i true) (a.put oi.dst v) w→wpAnyS P md ops Q S E (f+1) ls a w:=by
 have hCS:∀w,C w→E i=true→S w:=by
  intro w hw CW
  rcases hC with⟨_,rfl,_⟩|⟨h,_⟩
  ·exact hw
  ·rw[h] at CW;cases CW
 intro f
 induction f with
 |zero=>
  intro ls a w zC hsh _ hr hy hCw H
  refine⟨fun h=>OZ,fun j hj=>?_⟩
  by_cases QI:j=i
  ·subst QI;exact hy.wpOp hi hCw ⟨hCS w hCw,H⟩
  ·have:=ready_mono hj QI
   rw[H.1] at this
   cases this
 |succ f ih=>
  intro ls a w zC hsh XV hr hy hCw H
  refine⟨fun h=>OZ,fun j hj=>?_⟩
  by_cases QI:j=i
  ·subst QI;exact hy.wpOp hi hCw ⟨hCS w hCw,H⟩
  ·have h1:=H.2 j (ready_mono hj QI)
   obtain⟨af_,oj,YK,hall⟩:=mem_ready.1 hj
   have hun:=(mem_ready.1 hr).1
   have akf:∀e∈oj.after,Region.binds md e=true→e.on≠i:=fun e he hb heq=>by
    have h1:=hall e he hb
    rw[heq,getD_both hun] at h1
    cases h1
   have h2:=wpOp_putIf YK (XV j oj YK QI af_ akf) (fun cs b=>Ow i oi cs b hi) (fun cs b=>Ow j oj cs b YK) hQ hy h1
   refine wpOp_mono (fun a' w' h3=>⟨h3.2.1,?_⟩) h2
   have arb:C w':=by
    rcases hC with⟨CW,rfl,hJ⟩|⟨_,rfl⟩
    ·exact h3.2.1 (hJ ls zC hsh (getD_both hun) j hj)
    ·trivial
   refine ih (ls.setIfInBounds j true) a' w' (fun k hk=>getD_set_true (zC k hk)) (hsh.set hj) ?_ (ready_mono hr (Ne.symm QI)) h3.1 arb ?_
   ·exact aiw
   ·rw[Array.setIfInBounds_comm _ _ QI]
    exact h3.2.2
def takeB(md:Region.Mode)(ops:Array Oper)(ls:Array Bool)(i:Nat):Bool:=Region.noSelect ops&&Region.free md ops ls i&&(Region.ready md ops ls).contains i&&ajt md ops ls
theorem Kg{ls:Array Bool}{i:Nat}(h:takeB md ops ls i=true):Region.noSelect ops=true∧Region.free md ops ls i=true∧i∈Region.ready md ops ls∧Shut md ops ls:=by
 simp only[takeB,Bool.and_eq_true] at h
 exact⟨h.1.1.1,h.1.1.2,by simpa using h.1.2,Ws h.2⟩
theorem bL(i:Nat){oi:Oper}{v:Value}{f:Nat}{ls:Array Bool}{a:Act}{w:World}(hi:ops[i]?=some oi)(hB:(takeB md ops ls i&&E i&&acV md ops E ls i)=true)
  (hQ:∀c a w,Q (.panic c) (a.put oi.dst v) w→Q (.panic c) a w)(hS:S w)(hy:YieldsIf P ops S oi v a)
  (h:wpAnyS P md ops Q S E f (ls.setIfInBounds i true) (a.put oi.dst v) w):wpAnyS P md ops Q S E (f+1) ls a w:=by
 simp only[Bool.and_eq_true] at hB
 obtain⟨⟨hT,CW⟩,ht⟩:=hB
 obtain⟨h1,h2,h3,h4⟩:=Kg hT
 exact wpAnyS_first hi (Region.noSelect_spec h1) hQ ls (.inl ⟨CW,rfl,fun _ hs hsh hu=>Wo ht hs hsh hu⟩) f ls a w (fun _ h=>h) h4 (Region.free_spec hi h2) h3 hy hS h
theorem tk{P:Program}{ops:Array Oper}{Q:Exit→Act→World→Prop}{md:Region.Mode}{S:World→Prop}{E:Nat→Bool}(i d:Nat){o1 o2 o3 o4 o5}{v:Value}{f:Nat}{ls:Array Bool}{a a':Act}{w:World}(hS:S w)
  (h:wpAnyS P md ops Q S E f (ls.setIfInBounds i true) a' w)
  (hi:ops[i]?=some ⟨some d,o1,o2,o3,o4,o5⟩:=by rfl)(hB:(takeB md ops ls i&&E i&&acV md ops E ls i)=true:=by kernel_rfl)
  (hQ:∀c a w,Q (.panic c) (a.put (some d) v) w→Q (.panic c) a w:=by intro _ _ _ h;first|exact h|(rcases h with⟨h|h,_⟩<;>cases h)|cases h.1)
  (hy:YieldsIf P ops S ⟨some d,o1,o2,o3,o4,o5⟩ v a:=by refine Or.inl ⟨by rfl,?_⟩;intro W hW;go_simp;all_goals with_reducible rfl)
  (ha:a.put (some d) v=a':=by(try simp only[pt]);exact rfl):wpAnyS P md ops Q S E (f+1) ls a w:=by
 subst ha;exact bL i hi hB hQ hS hy h
theorem bV(i:Nat){oi:Oper}{v:Value}{f:Nat}{ls:Array Bool}{a:Act}{w:World}(hi:ops[i]?=some oi)(hB:(takeB md ops ls i&&!E i)=true)
  (hQ:∀c a w,Q (.panic c) (a.put oi.dst v) w→Q (.panic c) a w)(hy:YieldsIf P ops (fun _=>True) oi v a)
  (h:wpAnyS P md ops Q S E f (ls.setIfInBounds i true) (a.put oi.dst v) w):wpAnyS P md ops Q S E (f+1) ls a w:=by
 simp only[Bool.and_eq_true,Bool.not_eq_true'] at hB
 obtain⟨h1,h2,h3,h4⟩:=Kg hB.1
 exact wpAnyS_first hi (Region.noSelect_spec h1) hQ ls (.inr ⟨hB.2,rfl⟩) f ls a w (fun _ h=>h) h4 (Region.free_spec hi h2) h3 hy trivial h
theorem V7(i:Nat){oi:Oper}{f:Nat}{ls:Array Bool}{a:Act}{w:World}(hi:ops[i]?=some oi)(hr:decide (Region.ready md ops ls=[i])=true)(hg:oi.guard=none)
  (h:oi.wp P a w (fun a' w'=>(E i=true→S w')∧wpAnyS P md ops Q S E f (ls.setIfInBounds i true) a' w') Q):wpAnyS P md ops Q S E (f+1) ls a w:=by
 have hr:=of_decide_eq_true hr
 refine⟨fun h0=>Ve,fun j hj=>?_⟩
 rw[hr] at hj
 obtain rfl:j=i:=by simpa using hj
 unfold wpOp
 simp only[hi]
 rw[if_pos (by unfold Region.wanted;rw[hg])]
 exact .inl h
theorem aJ(i:Nat){oi:Oper}{f:Nat}{ls:Array Bool}{a:Act}{w:World}(hi:ops[i]?=some oi)(hr:decide (Region.ready md ops ls=[i])=true)(hg:oi.guard=none)
  (h:∀K:Act→World→Prop,Hid (∀a' w',(E i=true→S w')→wpAnyS P md ops Q S E f (ls.setIfInBounds i true) a' w'→K a' w')→oi.wp P a w K Q):wpAnyS P md ops Q S E (f+1) ls a w:=
 V7 i hi hr hg (h _ (ah fun _ _ h1 h2=>⟨h1,h2⟩))
theorem aZ(k:Nat){ls:Array Bool}{a:Act}{w:World}(hB:(Region.seqB md ops (ops.toList.drop k).length k ls&&(List.range ops.size).all (fun j=>decide (j<k)||!E j))=true)(h:wpList P ops Q (ops.toList.drop k) a w){f:Nat}(hf:f=(ops.toList.drop k).length):wpAnyS P md ops Q S E f ls a w:=by
 subst hf
 have key:∀(l:List Oper) (k:Nat) (ls:Array Bool) (a:Act) (w:World),(∀j,l[j]?=ops[k+j]?)→(∀j,k≤j→j<ops.size→E j=false)→Region.seqB md ops l.length k ls=true→wpList P ops Q l a w→wpAnyS P md ops Q S E l.length ls a w:=by
  intro l
  induction l with
  |nil=>intro k ls a w _ _ hB h;exact⟨by simpa[Region.seqB] using hB,h⟩
  |cons o l ih=>
   intro k ls a w hl hn hB h
   have h0:ops[k]?=some o:=by simpa using(hl 0).symm
   simp only[List.length_cons,Region.seqB,Bool.and_eq_true,decide_eq_true_eq] at hB
   refine⟨fun h1=>(by rw[hB.1] at h1;cases h1),fun i hi=>?_⟩
   rw[hB.1] at hi
   obtain rfl:i=k:=by simpa using hi
   have hw:wpOp P ops Q i (wpList P ops Q l) a w:=by unfold wpOp;simp only[h0];exact h
   exact wpOp_mono (fun a' w' h'=>⟨fun h=>absurd h (by rw[hn i (Nat.le_refl _) (Array.getElem?_eq_some_iff.1 h0).1];simp),ih (i+1) _ a' w' (fun j=>by have:=hl (j+1);simpa[Nat.add_assoc,Nat.add_comm 1 j] using this) (fun j hj=>hn j aj) hB.2 h'⟩) hw
 simp only[Bool.and_eq_true] at hB
 refine key _ k ls a w (fun j=>by simp[List.getElem?_drop]) (fun j hj hs=>?_) hB.1 h
 have h1:=List.all_eq_true.1 hB.2 j (List.mem_range.2 hs)
 simp only[Bool.or_eq_true,decide_eq_true_eq,Bool.not_eq_true'] at h1
 rcases h1 with h1|h1
 ·omega
 ·exact h1
theorem mJ{f:Nat}{ls:Array Bool}{a:Act}{w:World}(hr:(Region.ready md ops ls).isEmpty=true)(h:Q .normal a w):wpAnyS P md ops Q S E f ls a w:=by
 have hr:=List.isEmpty_iff.1 hr
 cases f with
 |zero=>exact⟨hr,h⟩
 |succ f=>exact⟨fun _=>h,by rw[hr];simp⟩
theorem ET{c:Code}{Q:Exit→Act→World→Prop}{a:Act}{w:World}(M:Act→World→Prop)(h:c.wp P (fun e a w=>e=.normal∧M a w) a w)(hM:∀a w,M a w→Q .normal a w):c.wp P Q a w:=
 Code.wp_mono (fun e a w h=>by obtain⟨rfl,h⟩:=h;exact hM a w h) h
theorem eX(i j:Nat){oi oj:Oper}{f:Nat}{ls:Array Bool}{a:Act}{w:World}(hi:ops[i]?=some oi)(hj:ops[j]?=some oj)(hr:decide (Region.ready md ops ls=[i,j])=true)(hg:oi.guard=none)(hg':oj.guard=none)
  (h:∀K:Act→World→Prop,Hid (∀a' w',(E i=true→S w')→wpAnyS P md ops Q S E f (ls.setIfInBounds i true) a' w'→K a' w')→oi.wp P a w K Q)
  (h':∀K:Act→World→Prop,Hid (∀a' w',(E j=true→S w')→wpAnyS P md ops Q S E f (ls.setIfInBounds j true) a' w'→K a' w')→oj.wp P a w K Q):wpAnyS P md ops Q S E (f+1) ls a w:=by
 have hr:=of_decide_eq_true hr
 refine⟨fun h0=>Ve,fun m hm=>?_⟩
 rw[hr] at hm
 simp only[List.mem_cons,List.not_mem_nil,or_false] at hm
 rcases hm with rfl|rfl
 ·exact aip
 ·exact aiq
theorem aY{id:Nat}{a:Act}{w:World}(S:World→Prop)(E:Nat→Bool)(hm:P.follows .mixedOrders=true)
  (h:wpAnyS P .any ops Q S E ops.size (Array.replicate ops.size false) a w.drew):(Code.region id ops true).wp P Q a w:=
 wp_region_any hm (J9 _ _ _ _ h)
end
theorem aO(w:World)(b o:Nat)(v:Value):w.grownBy (w.setCell ⟨b,o,none⟩ v) (some b):=
 ⟨rfl,rfl,rfl,aI,fun c _ hne=>heap_setCell_other w ⟨b,o,none⟩ c v (fun h=>hne (congrArg some h))⟩
theorem Sl.bO{w w':World}{ag:Bool}{n:Nat}{v:Value}{xs:List Value}{b:Nat}(h:Sl w ag n v xs)(hg:w.grownBy w' (some b))(ha:Apart b v xs):Sl w' ag n v xs:=by
 rcases ha with rfl|ha
 ·obtain⟨h0,a,cap,rfl,h1,h2,_⟩:=h
  exact⟨h0,a,cap,rfl,h1,h2,.inl rfl⟩
 ·exact Sl.grown h hg (fun c hc he=>ha c hc (Option.some.inj he))
section
variable {P:Program} {W:World} {E:TypeId} {ag:Bool} {k:Nat}
theorem aR{ops:Array Oper}{rest:List Oper}{o:Oper}{a:Act}{Q:Exit→Act→World→Prop}(hgd:o.guard=none)(E:TypeId)(p q:Operand)(ho:o.op=.store E p q)
  {b off:Nat}{t:TypeId}{cur:Array Value}(hb:aD W b cur t)(x:Value)(T:Ty P E k ag)(hx:Val ag k x)(vP:off+k≤cur.size)(cur':Array Value)(he:(cur.toList.take off++x.cells.toList++cur.toList.drop (off+k)).toArray=cur')
  (hp:a.eval p=.pointer (some ⟨b,off,none⟩))(hq:a.eval q=x)
  (h:∀W',aD W' b cur' t→W.grownBy W' (some b)→W'.heap.size=W.heap.size→Below b W W'→wpList P ops Q rest (a.put o.dst undef) W'):wpList P ops Q (o::rest) a W:=by
 refine sj hgd E p q ho b off hp x hq T hx hb vP (h _ ?_ ?_ ?_ ?_)
 ·rw[he];exact setRow_heap W b cur _ _ (0,0) hb
 ·exact acE
 ·simp[World.setRow]
 ·exact acA
theorem eP{o:Oper}{a:Act}{K:Act→World→Prop}{Q:Exit→Act→World→Prop}(E:TypeId)(p q:Operand)(ho:o.op=.store E p q)
  {b off:Nat}{t:TypeId}{cur:Array Value}(hb:aD W b cur t)(x:Value)(T:Ty P E k ag)(hx:Val ag k x)(vP:off+k≤cur.size)(cur':Array Value)(he:(cur.toList.take off++x.cells.toList++cur.toList.drop (off+k)).toArray=cur')
  (hp:a.eval p=.pointer (some ⟨b,off,none⟩))(hq:a.eval q=x)
  (h:∀W',aD W' b cur' t→W.grownBy W' (some b)→W'.heap.size=W.heap.size→Below b W W'→K (a.put o.dst undef) W'):o.wp P a W K Q:=by
 unfold Oper.wp execOp
 simp only[ho,hp,hq,Instr.storeAt,Instr.sureAddr,Sem.run_bind,Sem.run_pure,Result.andThen_ok,oL T hx hb vP]
 refine h _ ?_ ?_ ?_ ?_
 ·rw[he];exact setRow_heap W b cur _ _ (0,0) hb
 ·exact acE
 ·simp[World.setRow]
 ·exact acA
end
section
variable {P:Program} {w:World} {E:TypeId} {ag:Bool} {k:Nat}
structure TyM(P:Program)(E:TypeId)(k:Nat)(ag:Bool)(i:TypeInfo)(z:Value)(bytes:Nat)(t:TypeId):Prop where
 T:Ty P E k ag
 ht:P.underlying t=some (.slice E)
 hi:P.info? E=some i
 hz:i.zero=some z
 hs:i.size=k
 hb:i.bytes=bytes
 hzs:z.cells.size=k
theorem mK{o:Oper}{a:Act}{K:Act→World→Prop}{Q:Exit→Act→World→Prop}{t:TypeId}(q:Operand)(ho:o.op=.buildSlice t 1 #[(0,q)]){i:TypeInfo}{z:Value}{bytes:Nat}(M:TyM P E k ag i z bytes t)(hk:k≤16777216)
  (x:Value)(hq:a.eval q=x)(hx:Val ag k x)(h:K (a.put o.dst (.slice (some ⟨w.heap.size,0,none⟩) 1 1)) (w.alloc (.cells x.cells E))):o.wp P a w K Q:=by
 have hp:=M.T.pos
 refine wp_buildSlice t E 1 #[(0,q)] ho x.cells i z M.ht M.hi M.hz (by rw[M.hs];omega) (by rw[M.hs];omega) ?_ h
 have hw:=Great.fill_whole hp [x] ((Array.range (1*k)).map (z.cells[·%z.cells.size]!)) (by simpa using hx.size) aI
 rw[M.hs]
 simp only[List.map_toArray,List.map_cons,List.map_nil,hq]
 simpa using hw
theorem uz{o:Oper}{a:Act}{K:Act→World→Prop}{Q:Exit→Act→World→Prop}{s x:Operand}{t:TypeId}(ho:o.op=.call {callee:= .builtin .append,args:=#[s,x],argTypes:=#[t,t]}){i:TypeInfo}{z:Value}{bytes:Nat}(M:TyM P E k ag i z bytes t)
  (ao:Option Addr)(xs:List Value)(hs:a.eval s=.slice ao xs.length xs.length)(hsl:Sl w ag k (.slice ao xs.length xs.length) xs)(u:Nat)(y:Value)(LQ:Sl w ag k (.slice (some ⟨u,0,none⟩) 1 1) [y])(hx:a.eval x=.slice (some ⟨u,0,none⟩) 1 1)
  (h63:xs.length+1≤maxLen)(hbytes:(xs.length+1)*bytes≤140737488355328)
  (h:∀g cap w',bI w' w.heap.size E ag k (.slice (some ⟨g,0,none⟩) (xs.length+1) cap) (xs++[y])→Below w.heap.size w w'→K (a.put o.dst (.slice (some ⟨g,0,none⟩) (xs.length+1) cap)) w'):o.wp P a w K Q:=by
 obtain⟨g,cap,w',hr,hown,hg⟩:=zo (P:=P) (w:=w) t o.type M.T i z bytes M.ht M.hi M.hz M.hs M.hb M.hzs ao xs hsl ⟨u,0,none⟩ 1 [y] LQ aI h63 hbytes
 exact tV ho hs hx hr (h g cap w' hown (bJ hg))
end
theorem Sl.is{w:World}{ag:Bool}{k:Nat}{v:Value}{xs:List Value}(h:Sl w ag k v xs):∃a m n,v=.slice a m n:=by
 obtain⟨_,a,cap,rfl,_⟩:=h;exact⟨_,_,_,rfl⟩
theorem fq{W W':World}{b:Nat}{cs:Array Value}(hW:Below W.heap.size W W')(hl:b<W.heap.size)(hc:∀o,W.cell? ⟨b,o,none⟩=cs[o]?):∀o,W'.cell? ⟨b,o,none⟩=cs[o]?:=
 fun o=>(Below.cell hW (p:=⟨b,o,none⟩) hl).trans (hc o)
theorem Qm{w W:World}(h:Below w.heap.size w W):Below w.drew.heap.size w.drew W:=⟨h.os,h.tape,h.output,h.size,h.block⟩
theorem MG{P:Program}{o:Oper}{a:Act}{w:World}{K:Act→World→Prop}{Q:Exit→Act→World→Prop}(src dst:TypeId)(q:Operand)(ho:o.op=.convert src dst q)(x:Value)(hq:a.eval q=x)
  {v:Value}(hr:(convert src dst x).run P w=.ok v w)(h:K (a.put o.dst v) w):o.wp P a w K Q:=by
 unfold Oper.wp execOp
 simp only[ho,hq,hr,Sem.run_bind,Sem.run_pure,Result.andThen_ok]
 exact h
section
variable {P:Program} {w:World} {E:TypeId} {ag:Bool} {k:Nat}
theorem BD{ops:Array Oper}{rest:List Oper}{o:Oper}{a:Act}{Q:Exit→Act→World→Prop}(hgd:o.guard=none){t:TypeId}(q:Operand)(ho:o.op=.buildSlice t 1 #[(0,q)]){i:TypeInfo}{z:Value}{bytes:Nat}(M:TyM P E k ag i z bytes t)(hk:k≤16777216)
  (x:Value)(hq:a.eval q=x)(hx:Val ag k x)(h:wpList P ops Q rest (a.put o.dst (.slice (some ⟨w.heap.size,0,none⟩) 1 1)) (w.alloc (.cells x.cells E))):wpList P ops Q (o::rest) a w:=
 wpList_plain hgd fun K hK=>mK q ho M hk x hq hx (hK _ _ h)
theorem Ag{ops:Array Oper}{rest:List Oper}{o:Oper}{a:Act}{Q:Exit→Act→World→Prop}(hgd:o.guard=none){s x:Operand}{t:TypeId}(ho:o.op=.call {callee:= .builtin .append,args:=#[s,x],argTypes:=#[t,t]}){i:TypeInfo}{z:Value}{bytes:Nat}(M:TyM P E k ag i z bytes t)
  (ao:Option Addr)(xs:List Value)(hs:a.eval s=.slice ao xs.length xs.length)(hsl:Sl w ag k (.slice ao xs.length xs.length) xs)(u:Nat)(y:Value)(LQ:Sl w ag k (.slice (some ⟨u,0,none⟩) 1 1) [y])(hx:a.eval x=.slice (some ⟨u,0,none⟩) 1 1)
  (h63:xs.length+1≤maxLen)(hbytes:(xs.length+1)*bytes≤140737488355328)
  (h:∀g cap w',bI w' w.heap.size E ag k (.slice (some ⟨g,0,none⟩) (xs.length+1) cap) (xs++[y])→Below w.heap.size w w'→wpList P ops Q rest (a.put o.dst (.slice (some ⟨g,0,none⟩) (xs.length+1) cap)) w'):wpList P ops Q (o::rest) a w:=
 wpList_plain hgd fun K hK=>uz ho M ao xs hs hsl u y LQ hx h63 hbytes (fun g cap w' h1 h2=>hK _ _ (h g cap w' h1 h2))
end
theorem hidS{A:Prop}{D K:Act→World→Prop}{a:Act}{w:World}{S:World→Prop}(hK:Hid (∀a' w',(A→S w')→D a' w'→K a' w'))(h:S w)(k:S w→D a w):K a w:=hK.out a w (fun _=>h) (k h)
end Go.Tm
