/- Part 2 of 53 of the proof of topAlone_and_topApart. Conditions: see each. -/
import Derived.Test.YtgmodehldmahiaaGreatDoorB01
set_option linter.unusedVariables false
set_option linter.unusedSimpArgs false
set_option maxRecDepth 8192
set_option maxHeartbeats 40000000
namespace Go.Tm
open Go Go.RowKit
def Plain(P:Program)(t:TypeId)(cs:Array Value)(l:List Lit):Prop:=cs.size=P.cellsOf t∧∃D,P.keyLits D t cs.toList=some l
theorem Kv{P:Program}{t:TypeId}{cs:Array Value}(hw:(match P.underlying t with|some (.array _ _)|some (.struct _)=>true|_=>false)=true)(h:cs.size=P.cellsOf t):
  (Value.agg cs).formed P t=true:=by
 unfold Value.formed
 split at hw<;>simp_all
section
variable {P:Program} {t:TypeId} {m:Nat} {xs ys:Array Value} {lx ly:List Lit}
theorem j_(hm:m≤10000)(hk:P.keyTypeAt m t=true)(hw:(match P.underlying t with|some (.array _ _)|some (.struct _)=>true|_=>false)=true)
  (hx:Plain P t xs lx)(hy:Plain P t ys ly)(b:Bool)(hb:b=true↔lx=ly):∀w,(Op.equalIn 10000 t (.agg xs) (.agg ys)).run P w=.ok b w:=by
 intro w
 obtain⟨sx,D,hx⟩:=hx
 obtain⟨sy,D',hy⟩:=hy
 obtain⟨r,hr,af'⟩:=run_equalIn_deep (10000-m) m t hk w D D' (.agg xs) (.agg ys) lx ly (Kv hw sx) (Kv hw sy) hx hy
 rw[Nat.sub_add_cancel hm] at hr
 rw[hr]
 congr 1
 rw[Bool.eq_iff_iff,af',hb]
end
theorem after{W w1:World}(hb:Below W.heap.size W w1){b:Nat}{cs:Array Value}(hlt:b<W.heap.size)(hc:∀o,W.cell? ⟨b,o,none⟩=cs[o]?)(hf:∀o,W.frozen? ⟨b,o,none⟩=false):
  (∀o,w1.cell? ⟨b,o,none⟩=cs[o]?)∧(∀o,w1.frozen? ⟨b,o,none⟩=false)∧b<w1.heap.size∧¬b=w1.heap.size∧¬w1.heap.size=b:=by
 have hs:=hb.size
 exact⟨fun o=>(hb.cell (p:=⟨b,o,none⟩) hlt).trans (hc o),fun o=>(hb.frozen (p:=⟨b,o,none⟩) hlt).trans (hf o),aj,aj,aj⟩
def aD(W:World)(b:Nat)(cs:Array Value)(t:TypeId):Prop:=W.heap[b]?=some (.cells cs t (0,0))
section
variable {W:World} {b:Nat} {cs:Array Value} {t:TypeId}
theorem aD.lt(h:aD W b cs t):b<W.heap.size:=(Array.getElem?_eq_some_iff.1 h).1
theorem aD.rules(h:aD W b cs t):(∀o,W.cell? ⟨b,o,none⟩=cs[o]?)∧(∀o,W.frozen? ⟨b,o,none⟩=false)∧b<W.heap.size∧¬b=W.heap.size∧¬W.heap.size=b:=by
 have hl:=h.lt
 unfold aD at h
 exact⟨fun o=>by simp[World.cell?,h],fun o=>by simp[World.frozen?,h],hl,aj,aj⟩
theorem aD.new(w:World)(cs:Array Value)(t:TypeId):aD (w.alloc (.cells cs t)) w.heap.size cs t:=heap_alloc_new w _
theorem aD.p9(w:World)(cs:Array Value)(t:TypeId){n:Nat}(hn:n=w.heap.size):aD (w.alloc (.cells cs t)) n cs t:=by subst hn;exact heap_alloc_new w _
theorem aD.alloc(h:aD W b cs t)(o:Obj):aD (W.alloc o) b cs t:=(Below.heap_alloc W o b h.lt).trans h
theorem aD.set(h:aD W b cs t)(i:Nat)(v:Value):aD (W.setCell ⟨b,i,none⟩ v) b (cs.setIfInBounds i v) t:=heap_setCell_same W b i cs t v h
theorem aD.other(h:aD W b cs t)(a:Addr)(v:Value)(hne:¬b=a.block):aD (W.setCell a v) b cs t:=(heap_setCell_other W a b v hne).trans h
theorem aD.row(h:aD W b cs t)(g:Nat)(xs:Array Value)(hne:¬b=g):aD (W.setRow g xs) b cs t:=(setRow_other W g b xs hne).trans h
theorem aD.drewN(h:aD W b cs t)(n:Nat):aD (W.drewN n) b cs t:=h
theorem aD.drew(h:aD W b cs t):aD W.drew b cs t:=h
theorem aD.below(h:aD W b cs t){W':World}{B:Nat}(hb:Below B W W')(hl:b<B):aD W' b cs t:=(hb.block b hl).trans h
theorem aD.grown(h:aD W b cs t){W':World}{g:Option Nat}(hb:W.grownBy W' g)(hne:¬some b=g):aD W' b cs t:=(hb.block b h.lt hne).trans h
theorem aD.cast(h:aD W b cs t){cs':Array Value}(e:cs=cs'):aD W b cs' t:=e▸h
end
theorem bQ(w:World):w.drew.heap=w.heap:=rfl
theorem eG(w:World)(n:Nat):(w.drewN n).heap=w.heap:=rfl
theorem below_drewN'{B:Nat}{a w:World}(h:Below B a w)(n:Nat):Below B a (w.drewN n):=⟨h.os,h.tape,h.output,h.size,h.block⟩
theorem om{P:Prop}(h:P:=by intro _ _ _ h;first|exact h|(rcases h with⟨h|h,_⟩<;>cases h)|cases h.1):P:=h
theorem pt:(∀(a:Act) (d:Tmp) (v:Value),Act.put a (some d) v={a with tmps:=a.tmps.setIfInBounds d v})∧(∀(a:Act) (v:Value),Act.put a none v=a)∧(∀(l:List Value) (i:Nat) (a:Value),l.toArray.setIfInBounds i a=(l.set i a).toArray)∧(∀(x y:Value) (l:List Value),(x::l).set 0 y=y::l)∧(∀(x y:Value) (l:List Value) (n:Nat),(x::l).set (n+1) y=x::l.set n y):=
 ⟨fun _ _ _=>rfl,fun _ _=>rfl,fun _ _ _=>by simp,fun _ _ _=>rfl,fun _ _ _ _=>rfl⟩
end Go.Tm
namespace Go.Tm
open Go Go.ChangeShapes Go.WideShapes Go.ChangeAt Go.RowKit
def Shaped(P:Program)(w:World):Nat→TypeId→List Value→Prop
 |0,_,_=>False
 |f+1,t,cs=>
  match P.underlying t with
  |some .bool=>∃b,cs=[.bool b]
  |some (.int k)=>∃n,cs=[.int k n]∧(Lit.int k n).wf=true
  |some .string=>∃s:ByteArray,cs=[.string s]∧s.size≤maxLen∧s.size≤reachBytes
  |some (.slice e)=>∃a len cap,cs=[.slice a len cap]∧len≤cap∧cap≤maxLen∧cap*P.bytesOf e≤reachBytes∧
    ((a=none∧len=0∧cap=0)∨
      ∃x,a=some x∧∀i,i<cap→∃es,w.cells? 0 (x.add (i*P.cellsOf e)) (P.cellsOf e)=some es∧Shaped P w f e es)
  |some (.struct fs)=>cs.length=P.cellsOf t∧∀(i:Nat) (g:Field),fs[i]?=some g→Shaped P w f g.type ((cs.drop g.offset).take (P.cellsOf g.type))
  |some (.array n e)=>cs.length=P.cellsOf t∧∀i,i<n→Shaped P w f e ((cs.drop (i*P.cellsOf e)).take (P.cellsOf e))
  |_=>True
section
variable {H:Type} {enc:TypeId×Value→H} {P:Program} {w:World}
theorem vI{e:TypeId}{ds:List (DataW H)}{d:DataW H}(hd:d∈ds):∀n∈d.weights P e,n∈DataW.weightsAll P e ds:=by
 induction ds with
 |nil=>cases hd
 |cons a r ih=>
  intro n hn
  simp only[DataW.weightsAll,List.mem_append]
  rcases List.mem_cons.1 hd with rfl|h
  ·exact .inl hn
  ·exact .inr (ih h n hn)
theorem Li:∀(fuel:Nat) (t:TypeId) (cs:List Value) (d:DataW H) (ps:List MemPlace),
  DataW.trod enc P w 0 (fun _=>true) true fuel t cs=some (d,ps)→(∀n∈d.weights P t,n≤reachBytes)→Shaped P w fuel t cs:=by
 intro fuel
 induction fuel with
 |zero=>intro t cs d ps h;simp[DataW.trod] at h
 |succ f ih=>
  intro t cs d ps h hw
  unfold Shaped
  split
  ·rename_i ht
   obtain⟨b,hb,_⟩:=DataW.trod_bool ht h
   exact⟨b,hb⟩
  ·rename_i k ht
   obtain⟨n,hn,_,hwf⟩:=DataW.trod_int ht h
   exact⟨n,hn,hwf⟩
  ·rename_i ht
   obtain⟨s,hs,hx,hl⟩:=DataW.trod_string ht h
   refine⟨s,hs,hl,?_⟩
   simp only[Prod.mk.injEq] at hx
   have:=hw s.size (by rw[hx.1];simp[DataW.weights])
   exact this
  ·rename_i e ht
   rcases DataW.trod_slice ht h with⟨hcs,hx⟩|⟨a,len,cap,elems,rest,n,hf,hcs,hx,_,hle,am5,hlen,hel,hsp,_⟩
   ·exact⟨none,0,0,hcs,Nat.le_refl _,Nat.zero_le _,aI,.inl ⟨rfl,rfl,rfl⟩⟩
   ·simp only[Nat.add_right_cancel_iff] at hf
    subst hf
    obtain⟨hrl,aok⟩:=hsp rfl
    simp only[Prod.mk.injEq] at hx
    have hwt:d.weights P t=(elems.length+rest.length)*P.bytesOf e::(DataW.weightsAll P e (elems.map (·.1))++DataW.weightsAll P e (rest.map (·.1))):=by
     rw[hx.1];simp[DataW.weights,ht]
    refine⟨some a,len,cap,hcs,hle,am5,?_,.inr ⟨a,rfl,?_⟩⟩
    ·have:=hw ((elems.length+rest.length)*P.bytesOf e) (by rw[hwt];simp)
     rwa[show elems.length+rest.length=cap by omega] at this
    ·intro i hi
     have key:∀y:DataW H×List MemPlace,(y∈elems∨y∈rest)→(w.cells? 0 (a.add (i*P.cellsOf e)) (P.cellsOf e)).bind (DataW.trod enc P w 0 (fun _=>true) true f e)=some y→
       ∃es,w.cells? 0 (a.add (i*P.cellsOf e)) (P.cellsOf e)=some es∧Shaped P w f e es:=by
      intro y hy hb
      cases hc:w.cells? 0 (a.add (i*P.cellsOf e)) (P.cellsOf e) with
      |none=>rw[hc] at hb;simp at hb
      |some es=>
       rw[hc] at hb
       simp only[Option.bind_some] at hb
       obtain⟨y1,y2⟩:=y
       refine⟨es,rfl,ih e es y1 y2 hb fun n hn=>hw n ?_⟩
       rw[hwt]
       refine List.mem_cons_of_mem _ (List.mem_append.2 ?_)
       rcases hy with hy|hy
       ·exact .inl (vI (List.mem_map.2 ⟨_,hy,rfl⟩) n hn)
       ·exact .inr (vI (List.mem_map.2 ⟨_,hy,rfl⟩) n hn)
     by_cases xW:i<len
     ·have he:=hel i xW
      have zF:elems[i]?=some elems[i]:=List.getElem?_eq_getElem aj
      exact key elems[i] (.inl (List.getElem_mem _)) (he.trans zF)
     ·have he:=aok (i-len) aj
      rw[show len+(i-len)=i by omega] at he
      have zF:rest[i-len]?=some rest[i-len]:=List.getElem?_eq_getElem aj
      exact key rest[i-len] (.inr (List.getElem_mem _)) (he.trans zF)
  ·rename_i fs ht
   obtain⟨xs,n,hf,hx,hl,hlen,MV⟩:=DataW.trod_struct ht h
   simp only[Nat.add_right_cancel_iff] at hf
   subst hf
   refine⟨hl,fun i g hg=>?_⟩
   have h1:=MV i g hg
   have hi:i<fs.size:=(Array.getElem?_eq_some_iff.1 hg).1
   have zF:xs[i]?=some xs[i]:=List.getElem?_eq_getElem aj
   refine ih g.type _ xs[i].1 xs[i].2 (h1.trans zF) fun n hn=>hw n ?_
   simp only[Prod.mk.injEq] at hx
   rw[hx.1]
   simp only[DataW.weights,ht]
   refine DataW.weights_mem_each (j:=i) (t:=g.type) (d:=xs[i].1) ?_ ?_ n hn
   ·simp only[List.getElem?_map,Array.getElem?_toList,hg,Option.map_some]
   ·simp only[List.getElem?_map,zF,Option.map_some]
  ·rename_i n e ht
   obtain⟨xs,m,hf,hx,hl,hlen,MV⟩:=DataW.trod_array ht h
   simp only[Nat.add_right_cancel_iff] at hf
   subst hf
   refine⟨hl,fun i hi=>?_⟩
   have h1:=MV i hi
   have zF:xs[i]?=some xs[i]:=List.getElem?_eq_getElem aj
   refine ih e _ xs[i].1 xs[i].2 (h1.trans zF) fun n hn=>hw n ?_
   simp only[Prod.mk.injEq] at hx
   rw[hx.1]
   simp only[DataW.weights,ht]
   exact vI (List.mem_map.2 ⟨_,List.getElem_mem _,rfl⟩) n hn
  ·trivial
end
def rZ(P:Program)(W:World)(t:TypeId)(v:Value):Prop:=
 match P.underlying t with
 |some (.struct _)|some (.array _ _)=>∃cs fuel,v=.agg cs∧Shaped P W fuel t cs.toList
 |_=>∃fuel,Shaped P W fuel t [v]
theorem Qn{H:Type}{enc:TypeId×Value→H}{P:Program}{W:World}{base:Nat}{t:TypeId}{v:Value}{d:DataW H}{ps:List MemPlace}
  (hv:Value.okWide P W .any base t v)(h:DataW.Trod enc P W 0 (fun _=>true) true t v d ps)(hw:∀n∈d.weights P t,n≤reachBytes):rZ P W t v:=by
 obtain⟨fuel,hf⟩:=h
 have hs:=Li fuel t _ d ps hf hw
 unfold rZ
 unfold Value.okWide at hv
 split at hv
 ·exact ail
 ·exact ail
 ·rename_i h1 h2
  split
  ·rename_i ht;exact absurd ht (h1 _)
  ·rename_i ht;exact absurd ht (h2 _ _)
  ·refine⟨fuel,?_⟩
   have qZ:v.cells=#[v]:=by
    unfold Cell.okWide at hv
    cases v with
    |agg cs=>exfalso;revert hv;unfold Cell.ok;split<;>simp_all
    |_=>rfl
   simpa[qZ] using hs
end Go.Tm
namespace Go.Tm
open Go Go.ChangeShapes Go.WideShapes Go.ChangeAt Go.RowKit
section
variable {H:Type} {enc:TypeId×Value→H} {P:Program}
theorem Gu{w:World}{base:Nat}{spare:Nat→Bool}{held:Bool}:∀{ts:List TypeId} {vs:List Value} {ds:List (DataW H)} {ps:List MemPlace},
  DataW.TrodAll enc P w base spare held ts vs ds ps→vs.length=ts.length∧ds.length=ts.length∧
   ∀(j:Nat) (t:TypeId) (v:Value),ts[j]?=some t→vs[j]?=some v→∃d p,ds[j]?=some d∧DataW.Trod enc P w base spare held t v d p
 |[],[],[],_,_=>⟨rfl,rfl,fun j t v h=>by simp at h⟩
 |t::ts,v::vs,d::ds,_,⟨p,q,h1,h2,_⟩=>by
  obtain⟨a,b,c⟩:=Gu h2
  refine⟨by simp[a],by simp[b],fun j t' v' ht hv=>?_⟩
  cases j with
  |zero=>simp at ht hv;subst ht;subst hv;exact⟨d,p,rfl,h1⟩
  |succ j=>simp at ht hv;simpa using c j t' v' ht hv
 |[],[],_::_,_,h=>h.elim
 |[],_::_,_,_,h=>h.elim
 |_::_,[],_,_,h=>h.elim
 |_::_,_::_,[],_,h=>h.elim
theorem BF(hl:laidOutB P=true){W W':World}(hb:Below W.heap.size W W'):∀{ts:List TypeId} {vs:List Value} {ds:List (DataW H)} {ps:List MemPlace},
  ts.all (fun t=>P.readableRec t&&decide (t<P.types.size))=true→DataW.TrodAll enc P W 0 (fun _=>true) true ts vs ds ps→
  DataW.TrodAll enc P W' 0 (fun b=>decide (b<W.heap.size)) true ts vs ds ps
 |[],[],[],_,_,h=>h
 |t::ts,v::vs,d::ds,_,ha,⟨p,q,h1,h2,hpq⟩=>by
  simp only[List.all_cons,Bool.and_eq_true,decide_eq_true_eq] at ha
  refine⟨p,q,Below.trod hl ha.1.1 ha.1.2 h1 hb ?_,BF hl hb ha.2 h2,hpq⟩
  obtain⟨m,hm⟩:=h1
  exact DataW.trod_lt m _ _ _ hm
 |[],[],_::_,_,_,h=>h.elim
 |[],_::_,_,_,_,h=>h.elim
 |_::_,[],_,_,_,h=>h.elim
 |_::_,_::_,[],_,_,h=>h.elim
end
end Go.Tm
namespace Go.Tm
open Go Go.ChangeShapes Go.WideShapes Go.ChangeAt Go.RowKit
section
variable {P:Program} {W:World} {t:TypeId} {v:Value}
theorem BG{f:Nat}{cs:List Value}(ht:P.underlying t=some .string)(h:Shaped P W f t cs):∃s:ByteArray,cs=[.string s]∧s.size≤maxLen∧s.size≤reachBytes:=by
 cases f with
 |zero=>exact h.elim
 |succ f=>unfold Shaped at h;rw[ht] at h;exact h
theorem uy{e:TypeId}{f:Nat}{cs:List Value}(ht:P.underlying t=some (.slice e))(h:Shaped P W f t cs):
  ∃a len cap,cs=[.slice a len cap]∧len≤cap∧cap≤maxLen∧cap*P.bytesOf e≤reachBytes∧
     ((a=none∧len=0∧cap=0)∨
       ∃x g,a=some x∧∀i,i<cap→∃es,W.cells? 0 (x.add (i*P.cellsOf e)) (P.cellsOf e)=some es∧Shaped P W g e es):=by
 cases f with
 |zero=>exact h.elim
 |succ f=>
  unfold Shaped at h;rw[ht] at h
  obtain⟨a,len,cap,h1,h2,h3,h4,h5⟩:=h
  refine⟨a,len,cap,h1,h2,h3,h4,?_⟩
  rcases h5 with h5|⟨x,hx,h5⟩
  ·exact .inl h5
  ·exact .inr ⟨x,f,hx,h5⟩
theorem nD{fs:Array Field}{f:Nat}{cs:List Value}(ht:P.underlying t=some (.struct fs))(h:Shaped P W f t cs):
  ∃g,cs.length=P.cellsOf t∧∀(i:Nat) (x:Field),fs[i]?=some x→Shaped P W g x.type ((cs.drop x.offset).take (P.cellsOf x.type)):=by
 cases f with
 |zero=>exact h.elim
 |succ f=>unfold Shaped at h;rw[ht] at h;exact⟨f,h⟩
theorem Qe{n:Nat}{e:TypeId}{f:Nat}{cs:List Value}(ht:P.underlying t=some (.array n e))(h:Shaped P W f t cs):
  ∃g,cs.length=P.cellsOf t∧∀i,i<n→Shaped P W g e ((cs.drop (i*P.cellsOf e)).take (P.cellsOf e)):=by
 cases f with
 |zero=>exact h.elim
 |succ f=>unfold Shaped at h;rw[ht] at h;exact⟨f,h⟩
theorem KU{fs:Array Field}(ht:P.underlying t=some (.struct fs))(h:rZ P W t v):∃cs f,v=.agg cs∧Shaped P W f t cs.toList:=by
 unfold rZ at h
 rw[ht] at h
 exact h
theorem ko{k:IntKind}{f:Nat}{cs:List Value}(ht:P.underlying t=some (.int k))(h:Shaped P W f t cs):∃n,cs=[.int k n]∧(Lit.int k n).wf=true:=by
 cases f with
 |zero=>exact h.elim
 |succ f=>
  unfold Shaped at h
  rw[ht] at h
  exact h
theorem Tx{n:Nat}{e:TypeId}{k:IntKind}{f:Nat}{cs:List Value}(ht:P.underlying t=some (.array n e))(he:P.underlying e=some (.int k))
  (h1:P.cellsOf e=1)(hn:P.cellsOf t=n)(h:Shaped P W f t cs):∃l:List Int,l.length=n∧cs=l.map (Value.int k)∧∀x∈l,(Lit.int k x).wf=true:=by
 obtain⟨g,hl,hi⟩:=Qe ht h
 rw[hn] at hl
 rw[h1] at hi
 clear h ht hn
 induction n generalizing cs with
 |zero=>exact⟨[],rfl,OP,aI⟩
 |succ n ih=>
  cases cs with
  |nil=>simp at hl
  |cons c cs=>
   obtain⟨x,hx,hw⟩:=ko he (by simpa using hi 0 aj)
   simp only[List.cons.injEq,and_true] at hx
   obtain⟨l,h1,h2,h3⟩:=ih OP (fun i hi'=>by simpa using hi (i+1) aj)
   refine⟨x::l,yt,by simp[hx,h2],?_⟩
   intro y hy
   rcases List.mem_cons.1 hy with rfl|hy
   ·exact hw
   ·exact h3 y hy
theorem z8{α:Type}{cs:List α}{i:Nat}{a:α}(h:(cs.drop i).take 1=[a]):cs[i]?=some a:=by
 have h1:((cs.drop i).take 1)[0]?=some a:=by rw[h];rfl
 rw[List.getElem?_take,if_pos aj,List.getElem?_drop] at h1
 simpa using h1
theorem acX{α:Type}{cs:List α}{a b c:α}(hl:cs.length=3)(h0:cs[0]?=some a)(h1:cs[1]?=some b)(h2:cs[2]?=some c):cs=[a,b,c]:=by
 match cs,hl with
 |[x,y,z],_=>simp at h0 h1 h2;subst h0 h1 h2;rfl
theorem an5{α:Type}{cs:List α}{a b c d e:α}(hl:cs.length=5)(h0:cs[0]?=some a)(h1:cs[1]?=some b)(h2:cs[2]?=some c)(h3:cs[3]?=some d)(h4:cs[4]?=some e):cs=[a,b,c,d,e]:=by
 match cs,hl with
 |[x,y,z,u,v],_=>simp at h0 h1 h2 h3 h4;subst h0 h1 h2 h3 h4;rfl
theorem ano{α:Type}{a:Array α}(h:a.size=1):∃x0,a=#[x0]:=by
 obtain⟨l⟩:=a;match l,h with|[x0],_=>exact⟨x0,rfl⟩
end
end Go.Tm
namespace Go.Tm
open Go Go.RowKit
def anp(P:Program)(t:TypeId):Bool:=match P.underlying t with|some (.struct _)|some (.array _ _)=>true|_=>false
structure Ty(P:Program)(E:TypeId)(k:Nat)(ag:Bool):Prop where
 cells:P.cellsOf E=k
 agg:anp P E=ag
 pos:0<k
 und:(P.underlying E).isSome=true
def Val(ag:Bool)(k:Nat)(x:Value):Prop:=
 if ag=true then∃cs:Array Value,x=.agg cs∧cs.size=k∧∀c∈cs.toList,c.oneCell'=true else x.oneCell'=true∧k=1
theorem Val.size{ag:Bool}{k:Nat}{x:Value}(h:Val ag k x):x.cells.size=k:=by
 unfold Val at h
 split at h
 ·obtain⟨cs,rfl,hs,_⟩:=h;exact hs
 ·obtain⟨h1,rfl⟩:=h;cases x<;>first|rfl|simp[Value.oneCell'] at h1
theorem Val.len{ag:Bool}{k:Nat}{x:Value}(h:Val ag k x):x.cells.toList.length=k:=by simpa using h.size
theorem Val.one{ag:Bool}{k:Nat}{x:Value}(h:Val ag k x):∀c∈x.cells.toList,c.oneCell'=true:=by
 unfold Val at h
 split at h
 ·obtain⟨cs,rfl,_,h1⟩:=h;exact h1
 ·obtain⟨h1,_⟩:=h
  have hc:x.cells=#[x]:=by cases x<;>first|rfl|simp[Value.oneCell'] at h1
  rw[hc];intro c hc';simp at hc';subst hc';exact h1
def Cells(w:World)(b off:Nat)(cs:List Value):Prop:=∀j v,cs[j]?=some v→w.cell? ⟨b,off+j,none⟩=some v
structure Sl(w:World)(ag:Bool)(k:Nat)(v:Value)(xs:List Value):Prop where
 val:∀x∈xs,Val ag k x
 form:∃a cap,v=.slice a xs.length cap∧xs.length≤cap∧cap≤maxLen∧
  (xs=[]∨∃b off,a=some ⟨b,off,none⟩∧b<w.heap.size∧∀(i:Nat) x,xs[i]?=some x→Cells w b (off+i*k) x.cells.toList)
theorem Cells.below{w w':World}{b off:Nat}{cs:List Value}(h:Cells w b off cs){B:Nat}(hb:Below B w w')(hlt:b<B):Cells w' b off cs:=
 fun j v hv=>(hb.cell (p:=⟨b,off+j,none⟩) hlt).trans (h j v hv)
theorem Sl.below{w w':World}{ag:Bool}{k:Nat}{v:Value}{xs:List Value}(h:Sl w ag k v xs)(hb:Below w.heap.size w w'):Sl w' ag k v xs:=by
 obtain⟨hs,a,cap,hv,h1,h2,h3⟩:=h
 refine⟨hs,a,cap,hv,h1,h2,?_⟩
 rcases h3 with h3|⟨b,off,ha,hlt,hc⟩
 ·exact .inl h3
 ·exact .inr ⟨b,off,ha,Nat.lt_of_lt_of_le hlt hb.size,fun i x hx=>(hc i x hx).below hb hlt⟩
theorem Sl.shape{w:World}{ag:Bool}{k:Nat}{v:Value}{xs:List Value}(h:Sl w ag k v xs):∃a cap,v=.slice a xs.length cap∧xs.length≤9223372036854775807:=by
 obtain⟨_,a,cap,hv,h1,h2,_⟩:=h
 unfold maxLen at h2
 exact⟨a,cap,hv,aj⟩
theorem Sl.at{w:World}{ag:Bool}{k:Nat}{a:Option Addr}{n cap:Nat}{xs:List Value}(h:Sl w ag k (.slice a n cap) xs){i:Nat}{x:Value}(hx:xs[i]?=some x):
  ∃b off,a=some ⟨b,off,none⟩∧b<w.heap.size∧Cells w b (off+i*k) x.cells.toList:=by
 obtain⟨_,a',cap',he,_,_,hf⟩:=h
 simp only[Value.slice.injEq] at he
 obtain⟨rfl,_⟩:=he
 rcases hf with rfl|⟨b,off,ha,hb,hc⟩
 ·simp at hx
 ·exact⟨b,off,ha,hb,hc i x hx⟩
theorem Sl.nil(w:World)(ag:Bool)(k:Nat):Sl w ag k (.slice none 0 0) []:=⟨aI,none,0,rfl,Nat.le_refl _,Nat.zero_le _,.inl rfl⟩
def Body(P:Program)(f:FuncId):Prop:=∀(args:Array Value) (w:World),(callFunc f args).run P w=.ok (.enter f args) w
theorem gq{P:Program}{f:FuncId}{fn:Func}(hf:P.funcs[f]?=some fn)(h1:(fn.name== "runtime.NumGoroutine")=false)(h2:fn.body.isNone=false):Body P f:=by
 intro args w
 simp only[callFunc,Sem.run_bind,run_program,Result.andThen_ok,hf,h1,h2,Bool.false_eq_true,if_false,Sem.run_pure]
structure Pred(P:Program)(w:World)(g:Option Nat)(f:FuncId)(gI:Array Value)(p:Value→Bool)(xs:List Value):Prop where
 body:Body P f
 asks:∀w',w.grownBy w' g→∀x∈xs,Calls P f (#[x]++gI) w' fun e w''=>e=.returned (.bool (p x))∧Below w'.heap.size w' w''
theorem aA{w w':World}(h:Below w.heap.size w w')(g:Option Nat):w.grownBy w' g:=⟨h.os,h.tape,h.output,h.size,fun k hk _=>h.block k hk⟩
theorem bJ{w w':World}(h:w.grownBy w' none):Below w.heap.size w w':=⟨h.os,h.tape,h.output,h.size,fun k hk=>h.block k hk aI⟩
theorem aB{a b c:World}{g:Option Nat}(h:a.grownBy b g)(k:b.grownBy c g):a.grownBy c g:=
 ⟨k.os.trans h.os,k.tape.trans h.tape,k.output.trans h.output,Nat.le_trans h.size k.size,fun i hi hne=>(k.block i (Nat.lt_of_lt_of_le hi h.size) hne).trans (h.block i hi hne)⟩
theorem r9(w:World)(g:Option Nat):w.grownBy w g:=⟨rfl,rfl,rfl,Nat.le_refl _,fun _ _ _=>rfl⟩
theorem CS{w0 w w':World}{B:Nat}{g:Option Nat}(h0:Below B w0 w)(h:w.grownBy w' g)(hB:B≤w.heap.size)(hg:∀k,g=some k→B≤k):Below B w0 w':=h0.grown h hB hg
theorem addr_add(b off n:Nat):(⟨b,off,none⟩:Addr).add n=⟨b,off+n,none⟩:=by
 unfold Addr.add;split
 ·rename_i h;simp[h]
 ·rfl
section
variable {P:Program}
theorem Z9{w:World}{E:TypeId}{k:Nat}{ag:Bool}(h:Ty P E k ag):(isAgg E).run P w=.ok ag w:=by
 have ha:=h.agg
 unfold anp at ha
 unfold isAgg
 cases hu:P.underlying E with
 |none=>have:=h.und;rw[hu] at this;cases this
 |some d=>
  rw[Sem.run_bind,run_underlying hu w]
  rw[hu] at ha
  cases d<;>simp_all
theorem uq{E:TypeId}{k:Nat}{ag:Bool}(h:Ty P E k ag):∃i,P.info? E=some i∧i.size=k:=by
 have hc:=h.cells
 unfold Program.cellsOf at hc
 cases hq:P.info? E with
 |none=>have:=h.pos;rw[hq] at hc;simp at hc;omega
 |some i=>exact⟨i,rfl,by rw[hq] at hc;simpa using hc⟩
theorem iF{w:World}{E:TypeId}{k:Nat}{ag:Bool}(ht:Ty P E k ag){x:Value}(hx:Val ag k x){b off:Nat}(h:Cells w b off x.cells.toList):
  (loadVar E ⟨b,off,none⟩).run P w=.ok x w:=by
 have ha:=Z9 (w:=w) ht
 obtain⟨i,hi,hs⟩:=uq ht
 unfold Val at hx
 cases ag with
 |true=>
  simp only[if_true] at hx
  obtain⟨cs,rfl,hsz,_⟩:=hx
  have hl:(loadCells ⟨b,off,none⟩ cs.toList.length).run P w=.ok cs.toList.toArray w:=
   run_loadCells_list (P:=P) w ⟨b,off,none⟩ cs.toList (fun j v hv=>by rw[addr_add];exact h j v hv)
  simp only[Array.length_toList,Array.toArray_toList,hsz] at hl
  simp[loadVar,Sem.run_bind,ha,sizeOf,typeInfo,hi,hs,hl]
 |false=>
  simp only[Bool.false_eq_true,if_false] at hx
  have hc:x.cells=#[x]:=by obtain⟨h1,_⟩:=hx;cases x<;>first|rfl|simp[Value.oneCell'] at h1
  have h0:=h 0 x (by rw[hc];rfl)
  simp only[Nat.add_zero] at h0
  simp[loadVar,Sem.run_bind,ha,h0]
theorem oL{w:World}{E:TypeId}{k:Nat}{ag:Bool}(ht:Ty P E k ag){x:Value}(hx:Val ag k x){g off:Nat}{t:TypeId}{cur:Array Value}
  (hg:w.heap[g]?=some (.cells cur t (0,0)))(vP:off+k≤cur.size):
  (storeVar E ⟨g,off,none⟩ x).run P w=.ok () (w.setRow g (cur.toList.take off++x.cells.toList++cur.toList.drop (off+k)).toArray):=by
 obtain⟨i,hi,hs⟩:=uq ht
 have hst:=run_storeCells_at P g off t x.cells.toList 0 cur w hg (by simp only[hx.len];omega) hx.one
 simp only[Nat.add_zero,hx.len] at hst
 simp[storeVar,sizeOf,typeInfo,hi,hs,hx.size,hst]
theorem aN{ops:Array Oper}{rest:List Oper}{o:Oper}{a:Act}{w:World}{Q:Exit→Act→World→Prop}(hgd:o.guard=none)(E:TypeId)(p:Operand)(ho:o.op=.load E p)
  (b off:Nat)(hp:a.eval p=.pointer (some ⟨b,off,none⟩))(x:Value){k:Nat}{ag:Bool}(ht:Ty P E k ag)(hx:Val ag k x)(hc:Cells w b off x.cells.toList)
  (h:wpList P ops Q rest (a.put o.dst x) w):wpList P ops Q (o::rest) a w:=
 wpList_plain hgd fun K hK=>by
  unfold Oper.wp execOp
  simp only[ho,hp,Instr.loadAt,Instr.sureAddr,Sem.run_bind,Sem.run_pure,Result.andThen_ok,iF ht hx hc]
  exact hK _ _ h
theorem sj{ops:Array Oper}{rest:List Oper}{o:Oper}{a:Act}{w:World}{Q:Exit→Act→World→Prop}(hgd:o.guard=none)(E:TypeId)(p q:Operand)(ho:o.op=.store E p q)
  (g off:Nat)(hp:a.eval p=.pointer (some ⟨g,off,none⟩))(x:Value)(hq:a.eval q=x){k:Nat}{ag:Bool}(ht:Ty P E k ag)(hx:Val ag k x){t:TypeId}{cur:Array Value}
  (hg:w.heap[g]?=some (.cells cur t (0,0)))(vP:off+k≤cur.size)
  (h:wpList P ops Q rest (a.put o.dst undef) (w.setRow g (cur.toList.take off++x.cells.toList++cur.toList.drop (off+k)).toArray)):wpList P ops Q (o::rest) a w:=
 wpList_plain hgd fun K hK=>by
  unfold Oper.wp execOp
  simp only[ho,hp,hq,Instr.storeAt,Instr.sureAddr,Sem.run_bind,Sem.run_pure,Result.andThen_ok,oL ht hx hg vP]
  exact hK _ _ h
end
theorem fD(P:Program){t e:TypeId}{a:Addr}{n c:Nat}(ht:P.underlying t=some (.slice e))(w:World):
  (binOp .eql t (.slice (some a) n c) (.slice none 0 0)).run P w=.ok (.bool false) w:=by
 have h:∀d:Nat,(Op.equalIn (d+1) t (.slice (some a) n c) (.slice none 0 0)).run P w=.ok false w:=fun d=>by
  simp[Op.equalIn,run_underlying ht]
 simp only[binOp]
 simp[Op.equal,Op.maxDepth,h 9999]
theorem fE(P:Program){t e:TypeId}{n c:Nat}(ht:P.underlying t=some (.slice e))(w:World):
  (binOp .eql t (.slice none n c) (.slice none 0 0)).run P w=.ok (.bool true) w:=by
 have h:∀d:Nat,(Op.equalIn (d+1) t (.slice none n c) (.slice none 0 0)).run P w=.ok true w:=fun d=>by
  simp[Op.equalIn,run_underlying ht]
 simp only[binOp]
 simp[Op.equal,Op.maxDepth,h 9999]
theorem aD.Ar{W:World}{b:Nat}{cs:Array Value}{t:TypeId}(h:aD W b cs t):∀o d os,(Go.Sort.grow (redrawn W d) os).cell? ⟨b,o,none⟩=cs[o]?:=
 fun o d os=>((below_regrown W d os).cell (p:=⟨b,o,none⟩) h.lt).trans (h.rules.1 o)
theorem oH{W:World}{b o:Nat}{v:Value}(h:W.cell? ⟨b,o,none⟩=some v)(hb:b<W.heap.size):∀d os,(Go.Sort.grow (redrawn W d) os).cell? ⟨b,o,none⟩=some v:=
 fun d os=>((below_regrown W d os).cell (p:=⟨b,o,none⟩) hb).trans h
def idx(p:Value→Bool)(xs:List Value):Int:=match xs.findIdx? p with|some i=>i|none=>-1
theorem SE{p:Value→Bool}{xs:List Value}(h:∀x∈xs,p x=false):idx p xs=-1:=by
 have:xs.findIdx? p=none:=by rw[List.findIdx?_eq_none_iff];exact h
 unfold idx;rw[this]
theorem D8{p:Value→Bool}{xs:List Value}{i:Nat}{x:Value}(hx:xs[i]?=some x)(hp:p x=true)(h:∀j y,j<i→xs[j]?=some y→p y=false):idx p xs=i:=by
 have hlt:i<xs.length:=(List.getElem?_eq_some_iff.1 hx).1
 have:xs.findIdx? p=some i:=by
  rw[List.findIdx?_eq_some_iff_getElem]
  refine⟨hlt,?_,?_⟩
  ·rw[List.getElem?_eq_getElem hlt] at hx
   rw[Option.some.inj hx];exact hp
  ·intro j hj
   have:=h j xs[j] hj (List.getElem?_eq_getElem aj)
   simp[this]
 unfold idx;rw[this]
def flat(xs:List Value):List Value:=xs.flatMap fun x=>x.cells.toList
theorem fA{ag:Bool}{k:Nat}{xs:List Value}(h:∀x∈xs,Val ag k x):(flat xs).length=xs.length*k:=by
 induction xs with
 |nil=>simp[flat]
 |cons x xs ih=>
  have h1:=(h x aI).len
  have h2:=ih (fun y hy=>h y zQ)
  unfold flat at h2⊢
  simp only[List.flatMap_cons,List.length_append,h1,h2,List.length_cons,Nat.succ_mul]
  omega
theorem mM(xs ys:List Value):flat (xs++ys)=flat xs++flat ys:=by simp[flat]
theorem oI(x:Value)(xs:List Value):flat (x::xs)=x.cells.toList++flat xs:=by simp[flat]
theorem flat_get{ag:Bool}{k:Nat}:∀{xs:List Value} (h:∀x∈xs,Val ag k x) {i:Nat} {x:Value},xs[i]?=some x→∀j v,x.cells.toList[j]?=some v→(flat xs)[i*k+j]?=some v
 |[],_,i,x,hx,_,_,_=>by simp at hx
 |y::ys,h,i,x,hx,j,v,hv=>by
  have hy:=(h y aI).len
  rw[oI]
  cases i with
  |zero=>
   simp only[List.getElem?_cons_zero,Option.some.injEq] at hx
   subst hx
   have hj:=(List.getElem?_eq_some_iff.1 hv).1
   rw[List.getElem?_append_left aj]
   simpa using hv
  |succ i=>
   simp only[List.getElem?_cons_succ] at hx
   rw[List.getElem?_append_right (by rw[hy,Nat.succ_mul];omega),hy]
   have:=flat_get (fun z hz=>h z (by simp[hz])) hx j v hv
   rw[show(i+1)*k+j-k=i*k+j by rw[Nat.succ_mul];omega]
   exact this
theorem Kw{ag:Bool}{k:Nat}:∀{xs:List Value} (h:∀x∈xs,Val ag k x) {j:Nat} {u:Value},(flat xs)[j]?=some u→∃i x r,xs[i]?=some x∧x.cells.toList[r]?=some u∧j=i*k+r
 |[],_,j,u,hu=>by simp[flat] at hu
 |y::ys,h,j,u,hu=>by
  have hy:=(h y aI).len
  rw[oI] at hu
  by_cases hj:j<k
  ·rw[List.getElem?_append_left aj] at hu
   exact⟨0,y,j,rfl,hu,aj⟩
  ·rw[List.getElem?_append_right aj,hy] at hu
   obtain⟨i,x,r,h1,h2,h3⟩:=Kw (fun z hz=>h z (by simp[hz])) hu
   exact⟨i+1,x,r,by simpa using h1,h2,O1⟩
theorem Sl.news{w:World}{ag:Bool}{k:Nat}{a:Addr}{n cap:Nat}{xs:List Value}(h:Sl w ag k (.slice (some a) n cap) xs):∀j u,(flat xs)[j]?=some u→w.cell? (a.add j)=some u:=by
 intro j u hu
 obtain⟨hv,a',cap',he,_,_,hf⟩:=h
 simp only[Value.slice.injEq] at he
 obtain⟨rfl,_,_⟩:=he
 rcases hf with rfl|⟨b,off,hb,_,hc⟩
 ·simp[flat] at hu
 ·simp only[Option.some.injEq] at hb
  subst hb
  obtain⟨i,x,r,h1,h2,rfl⟩:=Kw hv hu
  rw[addr_add,←Nat.add_assoc]
  exact hc i x h1 r u h2
theorem jq{ag:Bool}{k:Nat}{xs:List Value}(h:∀x∈xs,Val ag k x):∀u∈flat xs,u.oneCell'=true:=by
 intro u hu
 unfold flat at hu
 obtain⟨x,hx,hm⟩:=List.mem_flatMap.1 hu
 exact(h x hx).one u hm
structure bI(w:World)(base:Nat)(E:TypeId)(ag:Bool)(k:Nat)(v:Value)(xs:List Value):Prop where
 row:w.ownsRow base E k v xs.length (flat xs)
 val:∀x∈xs,Val ag k x
theorem bI.sl{w:World}{base:Nat}{E:TypeId}{ag:Bool}{k:Nat}{v:Value}{xs:List Value}(h:bI w base E ag k v xs):Sl w ag k v xs:=by
 obtain⟨⟨hlen,hr⟩,hv⟩:=h
 refine⟨hv,?_⟩
 rcases hr with⟨rfl,h0⟩|⟨g,cap,cur,rfl,hb,hg,h1,h2,h3,h4⟩
 ·have:xs=[]:=List.eq_nil_of_length_eq_zero h0
  subst this
  exact⟨none,0,rfl,Nat.le_refl _,Nat.zero_le _,.inl rfl⟩
 ·refine⟨_,cap,rfl,h1,h2,.inr ⟨g,0,rfl,(Array.getElem?_eq_some_iff.1 hg).1,?_⟩⟩
  intro i x hx j c hc
  have hf:=flat_get hv hx j c hc
  rw[Nat.zero_add]
  have hlt:i*k+j<xs.length*k:=by
   have:=(List.getElem?_eq_some_iff.1 hf).1
   rwa[hlen] at this
  rw[←h4,List.getElem?_take] at hf
  rw[if_pos hlt] at hf
  simpa[World.cell?,hg] using hf
theorem bI.kept{w w':World}{base:Nat}{E:TypeId}{ag:Bool}{k:Nat}{v:Value}{xs:List Value}(h:bI w base E ag k v xs)(hb:Below w.heap.size w w'):bI w' base E ag k v xs:=
 ⟨h.row.kept (aA hb none) (by cases v.ownBlock<;>simp),h.val⟩
theorem bI.le{w:World}{base base':Nat}{E:TypeId}{ag:Bool}{k:Nat}{v:Value}{xs:List Value}(h:bI w base E ag k v xs)(hb:base'≤base):bI w base' E ag k v xs:=
 ⟨⟨h.row.1,h.row.2.elim Or.inl (fun⟨g,cap,cur,hv,hg,r⟩=>Or.inr ⟨g,cap,cur,hv,Nat.le_trans hb hg,r⟩)⟩,h.val⟩
end Go.Tm
namespace Go.Tm
open Go Go.ChangeShapes Go.WideShapes Go.ChangeAt Go.RowKit
section
variable {P:Program} {W:World} {t e:TypeId} {k:Nat} {ag:Bool} {v:Value}
theorem oK(T:Ty P e k ag)(hk:ag=false→k=1)(EB:∀g es,Shaped P W g e es→∀c∈es,c.oneCell'=true){f:Nat}
  (ht:P.underlying t=some (.slice e))(h:Shaped P W f t [v]):
  ∃xs,Sl W ag k v xs∧(∀x∈xs,∃g,Shaped P W g e x.cells.toList)∧xs.length*P.bytesOf e≤reachBytes:=by
 classical
 obtain⟨a,len,cap,hv,h2,h3,h4,h5⟩:=uy ht h
 obtain rfl:v=.slice a len cap:=by simpa using hv
 have bn:len*P.bytesOf e≤reachBytes:=Nat.le_trans (Nat.mul_le_mul_right _ h2) h4
 rcases h5 with⟨rfl,rfl,rfl⟩|⟨x,g,rfl,h5⟩
 ·exact⟨[],⟨aI,none,0,rfl,Nat.le_refl _,aI,.inl rfl⟩,aI,aI⟩
 rw[T.cells] at h5
 let F:Nat→List Value:=fun i=>if h:i<cap then Classical.choose (h5 i h) else[]
 have hF:∀i,i<cap→W.cells? 0 (x.add (i*k)) k=some (F i)∧Shaped P W g e (F i):=fun i hi=>by
  have:=Classical.choose_spec (h5 i hi)
  simp only[F,dif_pos hi]
  exact this
 have hlen:∀i,i<cap→(F i).length=k:=fun i hi=>(World.cells?_some (hF i hi).1).2.1
 let X:Nat→Value:=fun i=>if ag=true then .agg (F i).toArray else(F i).headD undef
 have hX:∀i,i<cap→Val ag k (X i)∧(X i).cells.toList=F i:=fun i hi=>by
  have h1:=EB g _ (hF i hi).2
  have hl:=hlen i hi
  cases ag with
  |true=>
   refine⟨?_,rfl⟩
   unfold Val
   exact⟨_,rfl,OP,by simpa using h1⟩
  |false=>
   obtain rfl:=hk rfl
   obtain⟨c,hc⟩:=List.length_eq_one_iff.1 hl
   have hc1:c.oneCell'=true:=h1 c (by rw[hc];simp)
   have hXc:X i=c:=by simp[X,hc]
   rw[hXc,hc]
   refine⟨⟨hc1,rfl⟩,?_⟩
   have:c.cells=#[c]:=by cases c<;>first|rfl|simp[Value.oneCell'] at hc1
   rw[this]
 refine⟨(List.range len).map X,⟨?_,?_⟩,?_,by simpa using bn⟩
 ·intro y hy
  obtain⟨i,hi,rfl⟩:=List.mem_map.1 hy
  exact(hX i (by have:=List.mem_range.1 hi;omega)).1
 ·refine⟨some x,cap,aI,Jb,h3,?_⟩
  by_cases hn:len=0
  ·subst hn;exact .inl aI
  right
  have h0:=hF 0 aj
  have hx0:x.add (0*k)=x:=by simp[Addr.add]
  rw[hx0] at h0
  have hblk:=World.cells?_block h0.1 T.pos
  have hspot:x.spot=none:=by
   have hc:=(World.cells?_some h0.1).2.2 0 T.pos
   have hx:x.add 0=x:=by simp[Addr.add]
   rw[hx] at hc
   have hl:=hlen 0 aj
   cases hs:x.spot with
   |none=>rfl
   |some s=>
    exfalso
    have hne:(F 0)[0]?≠none:=by
     have:0<(F 0).length:=by rw[hl];exact T.pos
     rw[List.getElem?_eq_getElem this];simp
    apply hne
    rw[←hc]
    unfold World.cell?
    split
    ·simp[hs]
    ·rfl
  obtain⟨b,off,sp⟩:=x
  obtain rfl:sp=none:=hspot
  refine⟨b,off,rfl,hblk,?_⟩
  intro i y hy j u hu
  have hi:i<len:=by
   rcases Nat.lt_or_ge i len with h|h
   ·exact h
   ·rw[List.getElem?_eq_none BU] at hy;cases hy
  have hyx:y=X i:=by
   rw[List.getElem?_map,List.getElem?_range hi] at hy
   simpa using hy.symm
  subst hyx
  rw[(hX i aj).2] at hu
  have hj:j<k:=by
   have:=hlen i aj
   rcases Nat.lt_or_ge j k with h|h
   ·exact h
   ·rw[List.getElem?_eq_none aj] at hu;cases hu
  have hc:=(World.cells?_some (hF i aj).1).2.2 j hj
  have ha:(Addr.add (Addr.add ⟨b,off,none⟩ (i*k)) j)=⟨b,off+i*k+j,none⟩:=by
   unfold Addr.add
   split<;>split<;>simp_all<;>omega
  rw[ha] at hc
  rw[hc,hu]
 ·intro y hy
  obtain⟨i,hi,rfl⟩:=List.mem_map.1 hy
  have hi':=List.mem_range.1 hi
  rw[(hX i aj).2]
  exact⟨g,(hF i aj).2⟩
end
end Go.Tm
namespace Go.Tm
open Go Go.RowKit
theorem D_{ag:Bool}{k:Nat}:∀{xs:List Value} (h:∀x∈xs,Val ag k x) {i:Nat} (hi:i<xs.length) (y:Value),flat (xs.set i y)=(flat xs).take (i*k)++y.cells.toList++(flat xs).drop (i*k+k)
 |[],_,i,hi,_=>by simp at hi
 |x::xs,h,i,hi,y=>by
  have hx:=(h x aI).len
  cases i with
  |zero=>
   simp only[List.set_cons_zero,oI,Nat.zero_mul,List.take_zero,List.nil_append,Nat.zero_add]
   rw[List.drop_append_of_le_length aj,List.drop_of_length_le aj,List.nil_append]
  |succ i=>
   have ih:=D_ (fun z hz=>h z (List.mem_cons_of_mem _ hz)) (i:=i) OQ y
   have e1:(i+1)*k=k+i*k:=O1
   simp only[List.set_cons_succ,oI,ih,e1]
   generalize i*k=m
   rw[List.take_append,List.drop_append,hx,List.take_of_length_le (l:=x.cells.toList) (i:=k+m) aj,List.drop_of_length_le (l:=x.cells.toList) (i:=k+m+k) aj,
    show k+m-k=m by omega,show k+m+k-k=m+k by omega]
   simp[List.append_assoc]
theorem set_self{α:Type}{xs:List α}{i:Nat}{x:α}(h:xs[i]?=some x):xs.set i x=xs:=by
 have hi:=(List.getElem?_eq_some_iff.1 h).1
 apply List.ext_getElem?
 intro r
 rw[List.getElem?_set]
 split
 ·rename_i hr
  subst hr
  first|rw[if_pos hi,h]|rw[h]
 ·rfl
theorem eO{α:Type}{xs:List α}{i:Nat}{x:α}(h:xs[i]?=some x):xs.take (i+1)=xs.take i++[x]:=by
 rw[List.take_add_one,h];rfl
section
variable {P:Program} {w:World} {base:Nat} {E:TypeId} {ag:Bool} {k:Nat} {v:Value} {xs:List Value}
theorem bI.form(h:bI w base E ag k v xs)(hne:0<xs.length):∃g cap,v=.slice (some ⟨g,0,none⟩) xs.length cap∧xs.length≤cap∧cap≤maxLen∧base≤g∧g<w.heap.size∧(∀o,w.frozen? ⟨g,o,none⟩=false)∧
  (∀(i:Nat) x,xs[i]?=some x→Cells w g (i*k) x.cells.toList):=by
 have hsl:=h.sl
 obtain⟨⟨hlen,hr⟩,hv⟩:=h
 rcases hr with⟨rfl,h0⟩|⟨g,cap,cur,rfl,hb,hg,h1,h2,h3,h4⟩
 ·omega
 ·refine⟨g,cap,rfl,h1,h2,hb,(Array.getElem?_eq_some_iff.1 hg).1,fun o=>frozen_of_row w g o cur E hg,?_⟩
  obtain⟨_,a,cap',he,_,_,hf⟩:=hsl
  simp only[Value.slice.injEq,true_and] at he
  obtain⟨rfl,_⟩:=he
  rcases hf with rfl|⟨b,off,hb,_,hc⟩
  ·simp at hne
  ·simp only[Option.some.injEq,Addr.mk.injEq,and_true] at hb
   obtain⟨rfl,rfl⟩:=hb
   intro i x hx
   have:=hc i x hx
   rwa[Nat.zero_add] at this
theorem bI.DW{g n cap:Nat}(h:bI w base E true k (.slice (some ⟨g,0,none⟩) n cap) xs){i:Nat}{cs:Array Value}(hx:xs[i]?=some (.agg cs)){j:Nat}(hj:j<k){u:Value}(hu:u.oneCell'=true):
  bI (w.setCell ⟨g,i*k+j,none⟩ u) base E true k (.slice (some ⟨g,0,none⟩) n cap) (xs.set i (.agg (cs.setIfInBounds j u)))∧w.grownBy (w.setCell ⟨g,i*k+j,none⟩ u) (some g):=by
 have hn:n=xs.length:=by
  obtain⟨_,a,c,he,_⟩:=h.sl
  simp only[Value.slice.injEq] at he
  exact he.2.1
 subst hn
 have hi:=(List.getElem?_eq_some_iff.1 hx).1
 have jW:Value.agg cs∈xs:=List.mem_of_getElem? hx
 obtain⟨cs',he,hsz,EB⟩:∃cs':Array Value,Value.agg cs=.agg cs'∧cs'.size=k∧∀c∈cs'.toList,c.oneCell'=true:=h.val _ jW
 simp only[Value.agg.injEq] at he
 subst he
 have hst:=h.row.stored (i*k+j) u
 refine⟨⟨⟨?_,?_⟩,?_⟩,hst.2⟩
 ·rw[fA (ag:=true) (k:=k),List.length_set]
  exact aiP
 ·have hf:(flat xs).set (i*k+j) u=flat (xs.set i (.agg (cs.setIfInBounds j u))):=by
   rw[D_ h.val hi]
   have LU:(flat xs)=(flat xs).take (i*k)++cs.toList++(flat xs).drop (i*k+k):=by
    have:=D_ h.val hi (.agg cs)
    rw[set_self hx] at this
    exact this
   have jO:((flat xs).take (i*k)).length=i*k:=by
    rw[List.length_take,fA h.val]
    exact Nat.min_eq_left (Nat.mul_le_mul_right _ aj)
   conv=>lhs;rw[LU]
   rw[List.append_assoc,List.set_append,if_neg aj,jO,show i*k+j-i*k=j by omega,List.set_append,if_pos aV]
   simp[List.append_assoc,Value.cells]
  rw[←hf]
  have h2:=hst.1.2
  rw[List.length_set]
  exact h2
 ·exact aiP
theorem bI.aeB(T:Ty P E k ag){g n cap:Nat}(h:bI w base E ag k (.slice (some ⟨g,0,none⟩) n cap) xs){i:Nat}(hi:i<xs.length){x:Value}(hx:Val ag k x):
  ∃w',(storeVar E ⟨g,i*k,none⟩ x).run P w=.ok () w'∧bI w' base E ag k (.slice (some ⟨g,0,none⟩) n cap) (xs.set i x)∧w.grownBy w' (some g):=by
 obtain⟨⟨hlen,hr⟩,hv⟩:=h
 rcases hr with⟨h0,_⟩|⟨g',cap',cur,he,hb,hg,h1,h2,h3,h4⟩
 ·simp at h0
 simp only[Value.slice.injEq,Option.some.injEq,Addr.mk.injEq,and_true,true_and] at he
 obtain⟨rfl,hn,rfl⟩:=he
 have hik:i*k+k≤xs.length*k:=by rw[←Nat.succ_mul];exact Nat.mul_le_mul_right _ hi
 have hck:xs.length*k≤cap*k:=Nat.mul_le_mul_right _ h1
 have hxl:=hx.len
 have vP:i*k+k≤cur.size:=by rw[h3];omega
 refine⟨_,oL T hx hg vP,⟨⟨?_,?_⟩,?_⟩,?_⟩
 ·rw[fA (ag:=ag) (k:=k),List.length_set]
  exact adD
 ·refine .inr ⟨g,cap,_,?_,hb,setRow_heap w g cur _ E (0,0) hg,?_,h2,?_,?_⟩
  ·rw[List.length_set,hn]
  ·rw[List.length_set];exact h1
  ·simp only[List.size_toArray,List.length_append,List.length_take,List.length_drop,Array.length_toList,hxl]
   rw[h3] at vP⊢
   omega
  ·rw[D_ hv hi,List.length_set]
   have hf:flat xs=cur.toList.take (xs.length*k):=h4.symm
   rw[hf,List.take_take,Nat.min_eq_left aj,List.drop_take]
   apply List.ext_getElem?
   intro j
   simp only[List.getElem?_append,List.getElem?_take,List.getElem?_drop,List.length_append,List.length_take,List.length_drop,Array.length_toList,hxl]
   rw[h3]
   repeat' split
   all_goals first
    |rfl
    |(exfalso;omega)
    |(congr 1;omega)
    |(simp only[List.getElem?_eq_none_iff];simp;omega)
    |(symm;simp only[List.getElem?_eq_none_iff];simp;omega)
 ·exact adD
 ·exact⟨rfl,rfl,rfl,yx,fun b hb hne=>setRow_other w g b _ yB⟩
theorem eB{ops:Array Oper}{rest:List Oper}{o:Oper}{a:Act}{Q:Exit→Act→World→Prop}(hgd:o.guard=none)(p q:Operand)(ho:o.op=.store E p q)
  (T:Ty P E k ag)(g n cap:Nat)(h:bI w base E ag k (.slice (some ⟨g,0,none⟩) n cap) xs)(i:Nat)(hi:i<xs.length)(hp:a.eval p=.pointer (some ⟨g,i*k,none⟩))
  (x:Value)(hq:a.eval q=x)(hx:Val ag k x)
  (hK:∀w',bI w' base E ag k (.slice (some ⟨g,0,none⟩) n cap) (xs.set i x)→w.grownBy w' (some g)→wpList P ops Q rest (a.put o.dst undef) w'):wpList P ops Q (o::rest) a w:=
 wpList_plain hgd fun K hK'=>by
  obtain⟨w',hr,h1,h2⟩:=h.aeB T hi hx
  unfold Oper.wp execOp
  simp only[ho,hp,hq,Instr.storeAt,Instr.sureAddr,Sem.run_bind,Sem.run_pure,Result.andThen_ok,hr]
  exact hK' _ _ (hK w' h1 h2)
theorem dJ{ops:Array Oper}{rest:List Oper}{o:Oper}{a:Act}{Q:Exit→Act→World→Prop}(hgd:o.guard=none)(s x:Operand)(t:TypeId)
  (ho:o.op=.call {callee:= .builtin .append,args:=#[s,x],argTypes:=#[t,t]})
  (T:Ty P E k ag)(i:TypeInfo)(z:Value)(bytes:Nat)(ht:P.underlying t=some (.slice E))(hi:P.info? E=some i)(hz:i.zero=some z)
  (hsize:i.size=k)(hby:i.bytes=bytes)(hzs:z.cells.size=k)
  (hs:a.eval s=v)(hown:bI w base E ag k v xs)(u:Value)(ys:List Value)(hx:a.eval x=u)(hsl:Sl w ag k u ys)
  (h63:xs.length+ys.length≤maxLen)(hbytes:(xs.length+ys.length)*bytes≤140737488355328)(hbase:base≤w.heap.size)
  (h:∀v' w',bI w' base E ag k v' (xs++ys)→w.grownBy w' v.ownBlock→(ys≠[]∨xs≠[]→∃g cap,v'=.slice (some ⟨g,0,none⟩) (xs.length+ys.length) cap)→wpList P ops Q rest (a.put o.dst v') w'):wpList P ops Q (o::rest) a w:=by
 have hval:∀y∈xs++ys,Val ag k y:=by
  intro y hy
  rcases List.mem_append.1 hy with hy|hy
  ·exact hown.val y hy
  ·exact hsl.val y hy
 have dL:∀{v':Value} {w':World},bI w' base E ag k v' (xs++ys)→(ys≠[]∨xs≠[]→∃g cap,v'=.slice (some ⟨g,0,none⟩) (xs.length+ys.length) cap):=by
  intro v' w' h1 hne
  have hlen:0<(xs++ys).length:=by
   rw[List.length_append]
   rcases hne with hne|hne
   ·have:=List.length_pos_iff.2 hne;omega
   ·have:=List.length_pos_iff.2 hne;omega
  obtain⟨g,cap,he,_⟩:=h1.form hlen
  rw[List.length_append] at he
  exact⟨g,cap,he⟩
 have rF:=hsl
 obtain⟨hv,ad,c,rfl,hlc,hcm,JE⟩:=hsl
 cases ad with
 |none=>
  have h0:ys=[]:=by
   rcases JE with h0|⟨b,off,hb,_⟩
   ·exact h0
   ·cases hb
  subst h0
  refine wpList_plain hgd fun K hK=>?_
  have h1:bI w base E ag k v (xs++[]):=by rw[List.append_nil];exact hown
  have hr:∀ty,(Builtin.append_ #[t,t] ty #[v,.slice none 0 c]).run P w=.ok v w:=by
   intro ty
   rcases hown.row.2 with⟨rfl,_⟩|⟨g,cap,cur,rfl,_,_,Qv,_⟩
   ·simp[Builtin.append_,run_underlying ht,sizeOf,typeInfo,hi,Builtin.lenOf,Builtin.firstCells]
   ·simp[Builtin.append_,run_underlying ht,sizeOf,typeInfo,hi,Builtin.lenOf,Builtin.firstCells,Qv,storeCells]
  unfold Oper.wp execOp
  simp only[ho,resolve,invoke,builtin,Sem.run_bind,Sem.run_pure,Result.andThen_ok,List.map_toArray,List.map_cons,List.map_nil,hs,hx,List.length_nil,hr]
  exact hK _ _ (h v w h1 (r9 w _) (dL h1))
 |some ad=>
  refine wpList_append_own w hgd s x t ho base E i z k bytes ht hi hz hsize hby hzs T.pos v xs.length (flat xs) hs hown.row ad ys.length c (flat ys) hx (fA hv) rF.news (jq hv) h63 hbytes hbase ?_
  intro v' w' h1 h2 _
  have h3:bI w' base E ag k v' (xs++ys):=⟨by rw[List.length_append,mM];exact h1,hval⟩
  exact h v' w' h3 h2 (dL h3)
theorem jA{ops:Array Oper}{rest:List Oper}{o:Oper}{a:Act}{Q:Exit→Act→World→Prop}(hgd:o.guard=none)(t:TypeId)(q:Operand)(ho:o.op=.buildSlice t 1 #[(0,q)])
  (T:Ty P E k ag)(hk:k≤16777216)(i:TypeInfo)(z:Value)(ht:P.underlying t=some (.slice E))(hi:P.info? E=some i)(hz:i.zero=some z)(hsize:i.size=k)
  (x:Value)(hq:a.eval q=x)(hx:Val ag k x)
  (h:wpList P ops Q rest (a.put o.dst (.slice (some ⟨w.heap.size,0,none⟩) 1 1)) (w.alloc (.cells x.cells E))):wpList P ops Q (o::rest) a w:=by
 refine wpList_plain hgd fun K hK=>?_
 have hp:=T.pos
 refine wp_buildSlice t E 1 #[(0,q)] ho x.cells i z ht hi hz (by rw[hsize];omega) (by rw[hsize];omega) ?_ (hK _ _ h)
 have hw:=Great.fill_whole hp [x] ((Array.range (1*k)).map (z.cells[·%z.cells.size]!)) (by simpa using hx.size) aI
 rw[hsize]
 simp only[List.map_toArray,List.map_cons,List.map_nil,hq]
 simpa using hw
theorem bI.pQ{x:Value}(hx:Val ag k x)(hb:base≤w.heap.size):bI (w.alloc (.cells x.cells E)) base E ag k (.slice (some ⟨w.heap.size,0,none⟩) 1 1) [x]:=by
 have h:=World.ownsRow_lit (base:=base) (e:=E) (size:=k) w x.cells 1 hb aC (by rw[hx.size];simp)
 exact⟨by simpa[flat] using h,by simpa using hx⟩
theorem Sl.pQ{x:Value}(hx:Val ag k x){n:Nat}(hn:n=w.heap.size):Sl (w.alloc (.cells x.cells E)) ag k (.slice (some ⟨n,0,none⟩) 1 1) [x]:=by
 subst hn
 exact(bI.pQ (base:=0) hx (Nat.zero_le _)).sl
theorem bI.nil:bI w base E ag k (.slice none 0 0) []:=⟨World.ownsRow_nil _ _ _ _,aI⟩
theorem bI.iy(h:bI w base E ag k v xs):∀b,v.ownBlock=some b→base≤b:=by
 intro b hb
 rcases h.row.2 with⟨rfl,_⟩|⟨g,cap,cur,rfl,hg,_⟩
 ·simp[Value.ownBlock] at hb
 ·simp[Value.ownBlock] at hb;subst hb;exact hg
theorem bI.below{w0 w':World}{B:Nat}(h:bI w base E ag k v xs)(hg:w.grownBy w' v.ownBlock)(h0:Below B w0 w)(hB:B≤base)(hw:B≤w.heap.size):Below B w0 w':=
 h0.grown hg hw fun b hb=>Nat.le_trans hB (h.iy b hb)
theorem bI.form'{g n cap:Nat}{a:Option Addr}(h:bI w base E ag k (.slice a n cap) xs):n=xs.length:=by
 obtain⟨_,a,c,he,_⟩:=h.sl
 simp only[Value.slice.injEq] at he
 exact he.2.1
end
end Go.Tm
namespace Go.Tm
open Go Go.RowKit
abbrev ints(l:List Int):List Value:=l.map (Value.int .i64)
theorem JX(l:List Int):∀x∈ints l,Val false 1 x:=by
 intro x hx
 obtain⟨n,_,rfl⟩:=List.mem_map.1 hx
 exact⟨rfl,rfl⟩
theorem Sz{l:List Int}{i:Nat}{n:Int}(h:l[i]?=some n):(ints l)[i]?=some (.int .i64 n):=by simp[h]
theorem gH(l:List Int):(ints l).length=l.length:=by simp
theorem kU(p:Value→Bool)(xs:List Value):(idx p xs=-1∧∀x∈xs,p x=false)∨∃(i:Nat) (x:Value),idx p xs=i∧xs[i]?=some x∧p x=true∧∀j y,j<i→xs[j]?=some y→p y=false:=by
 unfold idx
 cases h:xs.findIdx? p with
 |none=>rw[List.findIdx?_eq_none_iff] at h;exact .inl ⟨rfl,h⟩
 |some i=>
  rw[List.findIdx?_eq_some_iff_getElem] at h
  obtain⟨hi,hp,hj⟩:=h
  refine .inr ⟨i,_,rfl,List.getElem?_eq_getElem hi,hp,fun j y hlt hy=>?_⟩
  have:=hj j hlt
  rw[List.getElem?_eq_getElem aj] at hy
  rw[←Option.some.inj hy]
  simpa using this
theorem AP{ag:Bool}{k:Nat}{xs:List Value}(h:∀x∈xs,Val ag k x)(m:Nat):flat (xs.take m)=(flat xs).take (m*k):=by
 induction xs generalizing m with
 |nil=>simp[flat]
 |cons x xs ih=>
  cases m with
  |zero=>simp[flat]
  |succ m=>
   have hx:=(h x aI).len
   rw[List.take_succ_cons,oI,oI,ih (fun y hy=>h y zQ) m,List.take_append,hx,List.take_of_length_le (l:=x.cells.toList) (by rw[hx,Nat.succ_mul];omega)]
   congr 2
   rw[Nat.succ_mul];omega
section
variable {P:Program} {w:World} {base:Nat} {E:TypeId} {ag:Bool} {k:Nat} {v:Value} {xs:List Value}
theorem bI.take{g n cap:Nat}(h:bI w base E ag k (.slice (some ⟨g,0,none⟩) n cap) xs){m:Nat}(hm:m≤xs.length):bI w base E ag k (.slice (some ⟨g,0,none⟩) m cap) (xs.take m):=by
 have hn:n=xs.length:=bI.form' (g:=g) h
 obtain⟨⟨hlen,hr⟩,hv⟩:=h
 have hv':∀x∈xs.take m,Val ag k x:=fun x hx=>hv x (List.mem_of_mem_take hx)
 refine⟨⟨by rw[fA hv'],?_⟩,hv'⟩
 rcases hr with⟨h0,_⟩|⟨g',cap',cur,he,hb,hg,h1,h2,h3,h4⟩
 ·simp at h0
 simp only[Value.slice.injEq,Option.some.injEq,Addr.mk.injEq,and_true,true_and] at he
 obtain⟨rfl,_,rfl⟩:=he
 refine .inr ⟨g,cap,cur,?_,hb,hg,?_,h2,h3,?_⟩
 ·rw[List.length_take,Nat.min_eq_left hm]
 ·rw[List.length_take,Nat.min_eq_left hm];omega
 ·rw[List.length_take,Nat.min_eq_left hm,AP hv,←h4,List.take_take,Nat.min_eq_left (Nat.mul_le_mul_right _ hm)]
theorem MF{ty t:TypeId}{z:Value}(T:Ty P E k ag)(ht:P.underlying t=some (.slice E))(GL:∀w,(zeroValue E).run P w=.ok z w)(hz:Val ag k z){g n cap c:Nat}
  (h:bI w base E ag k (.slice (some ⟨g,0,none⟩) n cap) xs){i:Nat}(hi:i<xs.length):
  ∃w',(Builtin.clear_ #[t] ty #[.slice (some ⟨g,i*k,none⟩) (xs.length-i) c]).run P w=.ok (.tuple #[]) w'∧bI w' base E ag k (.slice (some ⟨g,0,none⟩) i cap) (xs.take i)∧w.grownBy w' (some g):=by
 have wK:=h.take (Nat.le_of_lt hi)
 obtain⟨⟨hlen,hr⟩,hv⟩:=h
 rcases hr with⟨h0,_⟩|⟨g',cap',cur,he,hb,hg,h1,h2,h3,h4⟩
 ·simp at h0
 simp only[Value.slice.injEq,Option.some.injEq,Addr.mk.injEq,and_true,true_and] at he
 obtain⟨rfl,_,rfl⟩:=he
 have hzl:(Builtin.zeroCells z.cells (xs.length-i)).toList.length=(xs.length-i)*k:=by rw[Array.length_toList,size_zeroCells,hz.size]
 have hik:i*k+(xs.length-i)*k=xs.length*k:=by rw[←Nat.add_mul];congr 1;omega
 have hck:xs.length*k≤cap*k:=Nat.mul_le_mul_right _ h1
 have EB:∀u∈(Builtin.zeroCells z.cells (xs.length-i)).toList,u.oneCell'=true:=by
  intro u hu
  unfold Builtin.zeroCells at hu
  simp only[Array.toList_map,List.mem_map] at hu
  obtain⟨j,_,rfl⟩:=hu
  have hlt:j%z.cells.size<z.cells.size:=Nat.mod_lt _ (by rw[hz.size];exact T.pos)
  rw[getElem!_pos z.cells _ hlt]
  exact hz.one _ aI
 have hst:=run_storeCells_at P g (i*k) E (Builtin.zeroCells z.cells (xs.length-i)).toList 0 cur w hg (by rw[hzl,h3];omega) EB
 simp only[Nat.add_zero,hzl] at hst
 refine⟨w.setRow g (cur.toList.take (i*k)++(Builtin.zeroCells z.cells (xs.length-i)).toList++cur.toList.drop (i*k+(xs.length-i)*k)).toArray,?_,?_,⟨rfl,rfl,rfl,yx,fun b hb hne=>setRow_other w g b _ yB⟩⟩
 ·obtain⟨m,hm⟩:∃m,xs.length-i=m+1:=⟨xs.length-i-1,aj⟩
  rw[hm] at hst⊢
  simp only[Builtin.clear_]
  simp[run_underlying ht,GL,hst,Sem.run_bind,Sem.run_pure,Result.andThen_ok]
 ·obtain⟨⟨aon,hr'⟩,hv'⟩:=wK
  refine⟨⟨aon,?_⟩,hv'⟩
  refine .inr ⟨g,cap,_,?_,hb,setRow_heap w g cur _ E (0,0) hg,?_,h2,?_,?_⟩
  ·rw[List.length_take,Nat.min_eq_left (Nat.le_of_lt hi)]
  ·rw[List.length_take,Nat.min_eq_left (Nat.le_of_lt hi)];omega
  ·simp only[List.size_toArray,List.length_append,List.length_take,List.length_drop,Array.length_toList,size_zeroCells,hz.size]
   rw[h3];omega
  ·rw[List.length_take,Nat.min_eq_left (Nat.le_of_lt hi),AP hv,←h4,List.take_take,Nat.min_eq_left aj,List.append_assoc,List.take_append]
   have:(cur.toList.take (i*k)).length=i*k:=ahM
   rw[this,Nat.sub_self,List.take_zero,List.append_nil,List.take_take,Nat.min_self]
theorem l5{ops:Array Oper}{rest:List Oper}{o:Oper}{a:Act}{Q:Exit→Act→World→Prop}(hgd:o.guard=none)(x:Operand)(t:TypeId)
  (ho:o.op=.call {callee:= .builtin .clear,args:=#[x],argTypes:=#[t]})(T:Ty P E k ag)(ht:P.underlying t=some (.slice E)){z:Value}(GL:∀w,(zeroValue E).run P w=.ok z w)(hz:Val ag k z)
  (g n cap c:Nat)(h:bI w base E ag k (.slice (some ⟨g,0,none⟩) n cap) xs)(i:Nat)(hi:i<xs.length)(hx:a.eval x=.slice (some ⟨g,i*k,none⟩) (xs.length-i) c)
  (hK:∀w',bI w' base E ag k (.slice (some ⟨g,0,none⟩) i cap) (xs.take i)→w.grownBy w' (some g)→wpList P ops Q rest (a.put o.dst (.tuple #[])) w'):wpList P ops Q (o::rest) a w:=
 wpList_plain hgd fun K hK'=>by
  obtain⟨w',hr,h1,h2⟩:=MF (ty:=o.type) (c:=c) T ht GL hz h hi
  unfold Oper.wp execOp
  simp only[ho,hx,resolve,invoke,builtin,Sem.run_bind,Sem.run_pure,Result.andThen_ok,List.map_toArray,List.map_cons,List.map_nil,hr]
  exact hK' _ _ (hK w' h1 h2)
theorem Bf{ops:Array Oper}{rest:List Oper}{o:Oper}{a:Act}{Q:Exit→Act→World→Prop}(hgd:o.guard=none)(s x:Operand)(t tn:TypeId)
  (ho:o.op=.call {callee:= .builtin .append,args:=#[s,x],argTypes:=#[t,tn]})(T:Ty P E k ag)(i:TypeInfo)(z:Value)(kn:IntKind)(bytes:Nat)
  (ht:P.underlying t=some (.slice E))(htn:P.underlying tn=some (.int kn))(hi:P.info? E=some i)(hz:i.zero=some z)(hsize:i.size=k)(hby:i.bytes=bytes)(hzs:z.cells.size=k)
  (hs:a.eval s=.slice none 0 0)(n:Nat)(h0:0<n)(hx:a.eval x=.int .i64 n)(h63:n≤maxLen)(hbytes:n*bytes≤140737488355328)(hbase:base≤w.heap.size)
  (h:∀cap w',n≤cap→bI w' base E ag k (.slice (some ⟨w.heap.size,0,none⟩) 0 cap) []→w.grownBy w' none→wpList P ops Q rest (a.put o.dst (.slice (some ⟨w.heap.size,0,none⟩) n cap)) w'):wpList P ops Q (o::rest) a w:=by
 subst hsize
 subst hby
 have hr:=Lib.run_append_nil_zeros (P:=P) w t tn o.type E i z .i64 kn ht htn hi hz n h0 T.pos (by unfold maxLen at h63;omega) aj
 refine Lib.wpList_append_run w hgd s x t tn ho _ _ hs hx _ _ hr ?_
 have hge:=grownCap_ge w n 0 E
 have hcm:grownCap w n 0 E≤maxLen:=grownCap_le_maxLen w n 0 E h63
 refine h _ _ hge ⟨⟨by simp[flat],.inr ⟨w.heap.size,_,_,rfl,hbase,heap_alloc_new w.drew _,Nat.zero_le _,hcm,?_,by simp[flat]⟩⟩,aI⟩ ⟨rfl,rfl,rfl,aI,fun b hk _=>Below.heap_alloc w.drew _ b hk⟩
 simp only[Array.size_append,size_zeroCells,hzs,←Nat.add_mul]
 congr 1
 omega
end
end Go.Tm
namespace Go.Tm
open Go Go.RowKit
section
variable {P:Program} {w:World} {E t:TypeId} {ag:Bool} {k:Nat} {v:Value} {xs:List Value}
theorem bI.setOther{base:Nat}(h:bI w base E ag k v xs){b:Nat}(hb:b<base)(o:Nat)(u:Value):bI (w.setCell ⟨b,o,none⟩ u) base E ag k v xs:=by
 have hB:Below b w (w.setCell ⟨b,o,none⟩ u):=Below.setCell (p:=⟨b,o,none⟩) (Below.refl b w) (Nat.le_refl b) u
 refine⟨h.row.kept (row:=some b) ⟨hB.os,hB.tape,hB.output,hB.size,fun i hi hne=>heap_setCell_other w ⟨b,o,none⟩ i u yB⟩ ?_,h.val⟩
 cases hv:v.ownBlock with
 |none=>left;rfl
 |some g=>right;intro he;have:=h.iy g hv;simp at he;omega
theorem Sl.Sc(T:Ty P E k ag)(ht:P.underlying t=some (.slice E))(h:Sl w ag k v xs)(y:Int)(m:Nat)(hy:y=m)(hm:m≤xs.length):
  ∃v',(∀W,(Instr.slice t v (some (.int .i64 y)) none none).run P W=.ok v' W)∧Sl w ag k v' (xs.drop m):=by
 obtain⟨i,hi,hs⟩:=uq T
 obtain⟨hv,a,cap,rfl,h1,h2,h3⟩:=h
 subst hy
 refine⟨.slice (if cap=m then a else a.map (·.add (m*k))) (xs.length-m) (cap-m),fun W=>?_,fun x hx=>hv x (List.mem_of_mem_drop hx),_,_,by rw[List.length_drop],by rw[List.length_drop];omega,aj,?_⟩
 ·have LD:m≤cap:=by omega
  exact acF
 ·rcases h3 with rfl|⟨b,off,rfl,hb,hc⟩
  ·left;simp
  ·by_cases hcm:cap=m
   ·left
    exact List.drop_eq_nil_of_le aj
   ·right
    refine⟨b,off+m*k,Vh,hb,fun j x hx=>?_⟩
    exact adK
theorem Sl.Z_(T:Ty P E k ag)(ht:P.underlying t=some (.slice E))(h:Sl w ag k v xs)(y:Int)(m:Nat)(hy:y=m)(hm:m≤xs.length):
  ∃v',(∀W,(Instr.slice t v (some (.int .i64 y)) none none).run P W=.ok v' W)∧Sl w ag k v' (xs.drop m)∧∀b,v'.ownBlock=some b→v.ownBlock=some b:=by
 obtain⟨v1,h1,h2⟩:=h.Sc T ht y m hy hm
 refine⟨v1,h1,h2,?_⟩
 obtain⟨i,hi,hs⟩:=uq T
 obtain⟨hv,a,cap,rfl,g1,g2,g3⟩:=h
 subst hy
 have hr:=h1 w
 have LD:m≤cap:=aj
 simp[Instr.slice,run_underlying ht,Instr.sliceBounds,Instr.sliceBound,asIntOf,sizeOf,typeInfo,hi,hs,hm,LD,g1] at hr
 subst hr
 intro b hb
 cases a with
 |none=>split at hb<;>simp[Value.ownBlock] at hb
 |some a=>
  split at hb
  ·simpa[Value.ownBlock] using hb
  ·simp only[Value.ownBlock,Option.map_some,Addr.add] at hb⊢
   split at hb<;>simpa using hb
theorem Sl.Sb(T:Ty P E k ag)(ht:P.underlying t=some (.slice E))(h:Sl w ag k v xs)(y:Int)(m:Nat)(hy:y=m)(hm:m≤xs.length):
  ∃v',(∀W,(Instr.slice t v none (some (.int .i64 y)) none).run P W=.ok v' W)∧Sl w ag k v' (xs.take m):=by
 obtain⟨i,hi,hs⟩:=uq T
 obtain⟨hv,a,cap,rfl,h1,h2,h3⟩:=h
 subst hy
 have LD:m≤cap:=aj
 have Ey:(xs.take m).length=m:=zS
 refine⟨.slice (if cap=0 then a else a.map (·.add (0*k))) m cap,fun W=>?_,fun x hx=>hv x (List.mem_of_mem_take hx),_,cap,by rw[Ey],by rw[Ey];exact LD,h2,?_⟩
 ·exact acF
 ·rcases h3 with rfl|⟨b,off,rfl,hb,hc⟩
  ·left;simp
  ·by_cases hcm:cap=0
   ·left
    have:m=0:=aj
    subst this;rfl
   ·right
    exact aiy
theorem Sl.setOther(h:Sl w ag k v xs){B:Nat}(hb:xs=[]∨∀b,v.ownBlock=some b→b≠B)(o:Nat)(u:Value):Sl (w.setCell ⟨B,o,none⟩ u) ag k v xs:=by
 obtain⟨hv,a,cap,rfl,h1,h2,h3⟩:=h
 refine⟨hv,a,cap,rfl,h1,h2,?_⟩
 rcases h3 with rfl|⟨b,off,rfl,hlt,hc⟩
 ·exact .inl rfl
 ·rcases hb with rfl|hb
  ·exact .inl rfl
  ·have hne:=hb b rfl
   refine .inr ⟨b,off,rfl,by simpa using hlt,fun i x hx j u' hu=>?_⟩
   rw[World.cell?_of_block (w:=w) (a:=⟨b,off+i*k+j,none⟩) (heap_setCell_other w ⟨B,o,none⟩ b u hne)]
   exact hc i x hx j u' hu
theorem Sl.alloc(h:Sl w ag k v xs)(o:Obj):Sl (w.alloc o) ag k v xs:=h.below ((Below.refl _ _).alloc (Nat.le_refl _) o)
def yV(N:Nat)(v:Value)(xs:List Value)(v':Value)(xs':List Value):Prop:=(v'=v∧xs'=xs)∨∀b,v'.ownBlock=some b→N≤b
theorem yV.same{N:Nat}:yV N v xs v xs:= .inl ⟨rfl,rfl⟩
theorem bI.res{base N:Nat}{v0:Value}{ys zs:List Value}(h:bI w base E ag k v xs)(hN:N≤base):yV N v0 ys v zs:= .inr fun b hb=>Nat.le_trans hN (h.iy b hb)
theorem yV.le{N M:Nat}{v':Value}{xs':List Value}(h:yV M v xs v' xs')(hN:N≤M):yV N v xs v' xs':=h.imp id fun h b hb=>Nat.le_trans hN (h b hb)
theorem yV.trans{N:Nat}{v1 v2:Value}{xs1 xs2:List Value}(h:yV N v xs v1 xs1)(h':yV N v1 xs1 v2 xs2):yV N v xs v2 xs2:=by
 rcases h' with⟨rfl,rfl⟩|h'
 ·exact h
 ·exact .inr h'
def Apart(B:Nat)(v:Value)(xs:List Value):Prop:=xs=[]∨∀b,v.ownBlock=some b→b≠B
theorem Sl.apart(h:Sl w ag k v xs){B:Nat}(hB:w.heap.size≤B):Apart B v xs:=by
 obtain⟨_,a,cap,rfl,_,_,h3⟩:=h
 exact ain
theorem yV.apart{N B:Nat}{v':Value}{xs':List Value}(h:yV N v xs v' xs')(ha:Apart B v xs)(hN:B<N):Apart B v' xs':=by
 rcases h with⟨rfl,rfl⟩|h
 ·exact ha
 ·right
  intro b hb
  have:=h b hb
  omega
theorem Sl.ql{w0:World}{N B:Nat}{v':Value}{xs':List Value}(h0:Sl w0 ag k v xs)(h:Sl w ag k v' xs')(hr:yV N v xs v' xs')(hB:w0.heap.size≤B)(hN:B<N)(o:Nat)(u:Value):
  Sl (w.setCell ⟨B,o,none⟩ u) ag k v' xs':=by
 refine h.setOther ?_ o u
 rcases hr with⟨rfl,rfl⟩|hr
 ·obtain⟨_,a,cap,rfl,_,_,h3⟩:=h0
  exact ain
 ·right
  intro b hb
  have:=hr b hb
  omega
end
end Go.Tm
namespace Go.Tm
open Go Go.RowKit
theorem aa8{ag:Bool}{k:Nat}{xs:List Value}(h:∀x∈xs,Val ag k x)(m:Nat):flat (xs.drop m)=(flat xs).drop (m*k):=by
 induction xs generalizing m with
 |nil=>simp[flat]
 |cons x xs ih=>
  cases m with
  |zero=>simp
  |succ m=>
   have hx:=(h x aI).len
   rw[List.drop_succ_cons,oI,ih (fun y hy=>h y zQ) m,List.drop_append,hx,List.drop_of_length_le (l:=x.cells.toList) (by rw[hx,Nat.succ_mul];omega),List.nil_append]
   congr 1
   rw[Nat.succ_mul];omega
theorem K8{k:Nat}{z:Value}(hz:z.cells.size=k)(hk:0<k)(n:Nat):(Builtin.zeroCells z.cells n).toList=flat (List.replicate n z):=by
 induction n with
 |zero=>simp[Builtin.zeroCells,flat]
 |succ n ih=>
  apply List.ext_getElem?
  intro j
  have hl:(Builtin.zeroCells z.cells n).toList.length=n*k:=by rw[Array.length_toList,size_zeroCells,hz]
  have jO:(Builtin.zeroCells z.cells (n+1)).toList.length=n*k+k:=by rw[Array.length_toList,size_zeroCells,hz,Nat.succ_mul]
  have hzl:z.cells.toList.length=k:=by simpa using hz
  rw[List.replicate_succ',mM,←ih]
  have mF:flat [z]=z.cells.toList:=by simp[flat]
  rw[mF]
  by_cases h1:j<n*k
  ·rw[List.getElem?_append_left aj]
   simp only[Builtin.zeroCells,Array.toList_map,List.getElem?_map,Array.toList_range,hz]
   rw[List.getElem?_range O1,List.getElem?_range h1]
  ·by_cases h2:j<n*k+k
   ·rw[List.getElem?_append_right aj,hl]
    simp only[Builtin.zeroCells,Array.toList_map,List.getElem?_map,Array.toList_range,hz]
    rw[List.getElem?_range O1]
    have hm:j%k=j-n*k:=by
     have:j=(j-n*k)+k*n:=by rw[Nat.mul_comm k n];omega
     rw[this,Nat.add_mul_mod_self_left,Nat.mod_eq_of_lt aj]
     rw[Nat.mul_comm k n];omega
    simp only[Option.map_some,hm]
    have hlt:j-n*k<z.cells.size:=aj
    rw[getElem!_pos z.cells _ hlt,List.getElem?_eq_getElem (by simpa using hlt)]
    simp
   ·rw[List.getElem?_eq_none aj,List.getElem?_eq_none (by simp only[List.length_append];omega)]
section
variable {P:Program} {w:World} {base:Nat} {E:TypeId} {ag:Bool} {k:Nat} {v:Value} {xs:List Value}
theorem rz{t:TypeId}(T:Ty P E k ag)(ht:P.underlying t=some (.slice E))(b off n cap:Nat)(y:Int)(m:Nat)(hy:y=m)(hm:m≤n)(hn:n≤cap)(hc:m<cap)(W:World):
  (Instr.slice t (.slice (some ⟨b,off,none⟩) n cap) (some (.int .i64 y)) none none).run P W=.ok (.slice (some ⟨b,off+m*k,none⟩) (n-m) (cap-m)) W:=by
 obtain⟨i,hi,hs⟩:=uq T
 subst hy
 have h1:¬cap=m:=aj
 simp[Instr.slice,run_underlying ht,Instr.sliceBounds,Instr.sliceBound,asIntOf,sizeOf,typeInfo,hi,hs,hm,h1,addr_add]
theorem run_append_grow_zeros{t tn ty:TypeId}(T:Ty P E k ag)(i:TypeInfo)(z:Value)(kn:IntKind)(ht:P.underlying t=some (.slice E))(htn:P.underlying tn=some (.int kn))(hi:P.info? E=some i)(hz:i.zero=some z)(hsize:i.size=k)
  (b:Addr)(sLen sCap:Nat)(olds:List Value)(hlo:olds.length=sLen*k)(holds:∀j v,olds[j]?=some v→w.cell? (b.add j)=some v)
  (n:Nat)(h0:0<n)(hg:sCap<sLen+n)(h63:((sLen+n:Nat):Int)≤9223372036854775807)(hb:(sLen+n)*i.bytes≤140737488355328):
  (Builtin.append_ #[t,tn] ty #[.slice (some b) sLen sCap,.int .i64 n]).run P w=
   .ok (.slice (some ⟨w.heap.size,0,none⟩) (sLen+n) (grownCap w (sLen+n) sCap E))
    (w.drew.alloc (.cells (olds.toArray++Builtin.zeroCells z.cells n++Builtin.zeroCells z.cells (grownCap w (sLen+n) sCap E-(sLen+n))) E)):=by
 subst hsize
 have vP:=growslice_fits (need:=sLen+n) (bytes:=i.bytes) (by omega:sCap<sLen+n) hb
 have hn:¬(sLen+n≤sCap):=aj
 have hn0:n≠0:=aj
 have hw:IntKind.i64.wrap (n:Int)=n:=by rw[IntKind.wrap_i64];omega
 have ard:¬(9223372036854775807<((sLen:Int)+(n:Int))):=aj
 have arh:¬(281474976710656<Builtin.nextslicecap (sLen+n) sCap*i.bytes):=aj
 have bA:n*i.bytes≤(sLen+n)*i.bytes:=Nat.mul_le_mul_right _ aj
 have arf:¬(281474976710656<(n:Int)*(i.bytes:Int)):=by
  rw[←Int.natCast_mul]
  omega
 have Zi:¬((n:Int)<0):=aj
 have hns:¬(n*i.size=0):=Nat.mul_ne_zero hn0 (by have:=T.pos;omega)
 have hf:=run_firstCells_some (P:=P) w.drew i.size sLen b sLen sCap olds hlo (by simpa using holds)
 simp[Builtin.append_,run_underlying ht,run_underlying htn,sizeOf,typeInfo,zeroValue,hi,hz,asInt,asIntOf,hw,hn,Zi,hns,ard,arh,arf,Question.forced,hf,newRow,grownCap]
theorem oh{t ty:TypeId}(T:Ty P E k ag)(ht:P.underlying t=some (.slice E)){g o m c:Nat}{cur:Array Value}(hg:w.heap[g]?=some (.cells cur E (0,0))){ad:Addr}{n cs:Nat}{news:List Value}
  (hl:news.length=min n m*k)(hnews:∀j u,news[j]?=some u→w.cell? (ad.add j)=some u)(h1:∀u∈news,u.oneCell'=true)(vP:o+news.length≤cur.size):
  (Builtin.copy_ #[t,t] ty #[.slice (some ⟨g,o,none⟩) m c,.slice (some ad) n cs]).run P w=.ok (goInt (min n m)) (w.setRow g (cur.toList.take o++news++cur.toList.drop (o+news.length)).toArray):=by
 obtain⟨i,hi,hs⟩:=uq T
 have hf:=run_firstCells_some (P:=P) w k (min n m) ad n cs news hl hnews
 have hst:=run_storeCells_at P g o E news 0 cur w hg (by simpa using vP) h1
 simp only[Nat.add_zero] at hst
 have hmn:Nat.min n m=min n m:=rfl
 simp[Builtin.copy_,run_underlying ht,sizeOf,typeInfo,hi,hs,Builtin.lenOf,hmn,hf,hst]
 congr 1
 omega
theorem wpList_copy_run{ops:Array Oper}{rest:List Oper}{o:Oper}{a:Act}{Q:Exit→Act→World→Prop}(hgd:o.guard=none)(d s:Operand)(t t':TypeId)
  (ho:o.op=.call {callee:= .builtin .copy,args:=#[d,s],argTypes:=#[t,t']})(v u:Value)(hd:a.eval d=v)(hs:a.eval s=u){v':Value}{w':World}
  (hr:(Builtin.copy_ #[t,t'] o.type #[v,u]).run P w=.ok v' w')(h:wpList P ops Q rest (a.put o.dst v') w'):wpList P ops Q (o::rest) a w:=
 wpList_plain hgd fun K hK=>by
  unfold Oper.wp execOp
  simp only[ho,resolve,invoke,builtin,Sem.run_bind,Sem.run_pure,Result.andThen_ok,List.map_toArray,List.map_cons,List.map_nil,hd,hs,hr]
  exact hK _ _ h
theorem bI.al0{t ty:TypeId}(T:Ty P E k ag)(ht:P.underlying t=some (.slice E)){g n cap:Nat}{zs ys:List Value}(h:bI w base E ag k (.slice (some ⟨g,0,none⟩) n cap) zs){i m c:Nat}{ad:Addr}{cs:Nat}
  (hu:Sl w ag k (.slice (some ad) ys.length cs) ys)(hm:ys.length≤m)(hi:i+ys.length≤zs.length):
  ∃w',(Builtin.copy_ #[t,t] ty #[.slice (some ⟨g,i*k,none⟩) m c,.slice (some ad) ys.length cs]).run P w=.ok (goInt ys.length) w'∧
   bI w' base E ag k (.slice (some ⟨g,0,none⟩) n cap) (zs.take i++ys++zs.drop (i+ys.length))∧w.grownBy w' (some g):=by
 have hn:n=zs.length:=bI.form' (g:=g) h
 have hnews:=hu.news
 have hyv:=hu.val
 have hyl:=fA hyv
 have EB:=jq hyv
 obtain⟨⟨hlen,hr⟩,hv⟩:=h
 rcases hr with⟨h0,_⟩|⟨g',cap',cur,he,hb,hg,h1,h2,h3,h4⟩
 ·simp at h0
 simp only[Value.slice.injEq,Option.some.injEq,Addr.mk.injEq,and_true,true_and] at he
 obtain⟨rfl,_,rfl⟩:=he
 have e1:i*k+ys.length*k=(i+ys.length)*k:=(Nat.add_mul _ _ _).symm
 have e2:(i+ys.length)*k≤zs.length*k:=Nat.mul_le_mul_right _ hi
 have e3:zs.length*k≤cap*k:=Nat.mul_le_mul_right _ h1
 have Oz:min ys.length m=ys.length:=aj
 have hrun:=oh (ty:=ty) (c:=c) (m:=m) (o:=i*k) (cs:=cs) T ht hg (n:=ys.length) (by rw[Oz];exact hyl) hnews EB (by rw[hyl,h3];omega)
 rw[show min (ys.length:Int) (m:Int)=ys.length by omega] at hrun
 have hv':∀x∈zs.take i++ys++zs.drop (i+ys.length),Val ag k x:=by
  intro x hx
  rcases List.mem_append.1 hx with hx|hx
  ·rcases List.mem_append.1 hx with hx|hx
   ·exact hv x (List.mem_of_mem_take hx)
   ·exact hyv x hx
  ·exact hv x (List.mem_of_mem_drop hx)
 have Xy:(zs.take i++ys++zs.drop (i+ys.length)).length=zs.length:=by
  simp only[List.length_append,List.length_take,List.length_drop];omega
 refine⟨_,hrun,⟨⟨by rw[fA hv'],?_⟩,hv'⟩,⟨rfl,rfl,rfl,yx,fun b hb hne=>setRow_other w g b _ yB⟩⟩
 refine .inr ⟨g,cap,_,by rw[Xy,hn],hb,setRow_heap w g cur _ E (0,0) hg,by rw[Xy];exact h1,h2,?_,?_⟩
 ·simp only[List.size_toArray,List.length_append,List.length_take,List.length_drop,Array.length_toList,hyl]
  rw[h3];omega
 ·rw[Xy,mM,mM,AP hv,aa8 hv,←h4,List.take_take,Nat.min_eq_left aj,List.drop_take,hyl,e1,List.append_assoc,List.append_assoc,List.take_append,List.take_append]
  have l1:(cur.toList.take (i*k)).length=i*k:=ahM
  rw[List.take_of_length_le aj,l1,List.take_of_length_le (l:=flat ys) aj,hyl]
  congr 3
  omega
theorem wpList_copy_own{ops:Array Oper}{rest:List Oper}{o:Oper}{a:Act}{Q:Exit→Act→World→Prop}(hgd:o.guard=none)(d s:Operand)(t:TypeId)
  (ho:o.op=.call {callee:= .builtin .copy,args:=#[d,s],argTypes:=#[t,t]})(T:Ty P E k ag)(ht:P.underlying t=some (.slice E))(g n cap:Nat)(zs ys:List Value)(h:bI w base E ag k (.slice (some ⟨g,0,none⟩) n cap) zs)
  (i m c:Nat)(ad:Addr)(cs:Nat)(hu:Sl w ag k (.slice (some ad) ys.length cs) ys)(hm:ys.length≤m)(hi:i+ys.length≤zs.length)
  (hd:a.eval d=.slice (some ⟨g,i*k,none⟩) m c)(hs:a.eval s=.slice (some ad) ys.length cs)
  (hK:∀w',bI w' base E ag k (.slice (some ⟨g,0,none⟩) n cap) (zs.take i++ys++zs.drop (i+ys.length))→w.grownBy w' (some g)→wpList P ops Q rest (a.put o.dst (goInt ys.length)) w'):wpList P ops Q (o::rest) a w:=by
 obtain⟨w',hr,h1,h2⟩:=h.al0 (ty:=o.type) (m:=m) (c:=c) T ht hu hm hi
 exact wpList_copy_run hgd d s t t ho _ _ hd hs hr (hK w' h1 h2)
theorem ny{ops:Array Oper}{rest:List Oper}{o:Oper}{a:Act}{Q:Exit→Act→World→Prop}(hgd:o.guard=none)(s x:Operand)(t tn:TypeId)
  (ho:o.op=.call {callee:= .builtin .append,args:=#[s,x],argTypes:=#[t,tn]})(T:Ty P E k ag)(i0:TypeInfo)(z:Value)(kn:IntKind)(bytes:Nat)
  (ht:P.underlying t=some (.slice E))(htn:P.underlying tn=some (.int kn))(qN:P.info? E=some i0)(hz:i0.zero=some z)(hsize:i0.size=k)(hby:i0.bytes=bytes)(GL:Val ag k z)
  (g n cap:Nat)(h:bI w base E ag k (.slice (some ⟨g,0,none⟩) n cap) xs)(i m:Nat)(hi:i≤xs.length)(hm:0<m)(hg:cap<i+m)(h63:i+m≤maxLen)(hb:(i+m)*bytes≤140737488355328)(hbase:base≤w.heap.size)
  (hs:a.eval s=.slice (some ⟨g,0,none⟩) i cap)(hx:a.eval x=.int .i64 m)
  (hK:∀jl w',i+m≤jl→bI w' base E ag k (.slice (some ⟨w.heap.size,0,none⟩) (i+m) jl) (xs.take i++List.replicate m z)→w.grownBy w' none→wpList P ops Q rest (a.put o.dst (.slice (some ⟨w.heap.size,0,none⟩) (i+m) jl)) w'):wpList P ops Q (o::rest) a w:=by
 subst hby
 have hsl:=(h.take hi).sl
 have xW:(xs.take i).length=i:=zS
 have hr:=run_append_grow_zeros (ty:=o.type) (sCap:=cap) T i0 z kn ht htn qN hz hsize ⟨g,0,none⟩ i (flat (xs.take i)) (by rw[fA hsl.val,xW]) hsl.news m hm hg (by unfold maxLen at h63;omega) hb
 refine Lib.wpList_append_run w hgd s x t tn ho _ _ hs hx _ _ hr ?_
 have hge:=grownCap_ge w (i+m) cap E
 have hcm:grownCap w (i+m) cap E≤maxLen:=grownCap_le_maxLen w (i+m) cap E h63
 have hval:∀y∈xs.take i++List.replicate m z,Val ag k y:=by
  intro y hy
  rcases List.mem_append.1 hy with hy|hy
  ·exact hsl.val y hy
  ·rw[List.eq_of_mem_replicate hy];exact GL
 have hlen:(xs.take i++List.replicate m z).length=i+m:=by simp[xW]
 refine hK _ _ hge ⟨⟨by rw[fA hval],.inr ⟨w.heap.size,_,_,by rw[hlen],hbase,heap_alloc_new w.drew _,by rw[hlen];exact hge,hcm,?_,?_⟩⟩,hval⟩ ⟨rfl,rfl,rfl,aI,fun b hb _=>Below.heap_alloc w.drew _ b hb⟩
 ·simp only[Array.size_append,size_zeroCells,GL.size,List.size_toArray,fA hsl.val,xW,←Nat.add_mul]
  congr 1
  omega
 ·rw[hlen,mM,←K8 GL.size T.pos]
  simp only[Array.toList_append]
  rw[List.take_append_of_le_length aii]
  rw[List.take_of_length_le aii]
theorem Cv(cur D X:List Value)(a b:Nat)(hX:X.length=b)(hl:a+b≤cur.length):
  ((cur.take (a+b)++D++cur.drop (a+b+D.length)).take a++X++(cur.take (a+b)++D++cur.drop (a+b+D.length)).drop (a+X.length))=cur.take a++X++D++cur.drop (a+b+D.length):=by
 subst hX
 have h1:(cur.take (a+X.length)).length=a+X.length:=zS
 rw[List.append_assoc (cur.take (a+X.length)),List.take_append_of_le_length aj,List.take_take,Nat.min_eq_left aj,List.drop_left' h1]
 simp only[List.append_assoc]
theorem bI.inserted{g cap:Nat}{cur:Array Value}{W:World}{i:Nat}{x:Value}(hv:∀y∈xs,Val ag k y)(hx:Val ag k x)(hb:base≤g)(hc:xs.length+1≤cap)(hcm:cap≤maxLen)(hs:cur.size=cap*k)(ht:cur.toList.take (xs.length*k)=flat xs)(hi:i≤xs.length)
  (hg:W.heap[g]?=some (.cells (cur.toList.take (i*k)++x.cells.toList++flat (xs.drop i)++cur.toList.drop (i*k+k+(flat (xs.drop i)).length)).toArray E (0,0))):
  bI W base E ag k (.slice (some ⟨g,0,none⟩) (xs.length+1) cap) (xs.take i++x::xs.drop i):=by
 have hv':∀y∈xs.take i++x::xs.drop i,Val ag k y:=by
  intro y hy
  rcases List.mem_append.1 hy with hy|hy
  ·exact hv y (List.mem_of_mem_take hy)
  ·rcases List.mem_cons.1 hy with rfl|hy
   ·exact hx
   ·exact hv y (List.mem_of_mem_drop hy)
 have hlen:(xs.take i++x::xs.drop i).length=xs.length+1:=by
  simp only[List.length_append,List.length_cons,List.length_take,List.length_drop];omega
 have hdl:(flat (xs.drop i)).length=(xs.length-i)*k:=by
  rw[fA (fun y hy=>hv y (List.mem_of_mem_drop hy)),List.length_drop]
 have hxl:=hx.len
 have e1:i*k+(xs.length-i)*k=xs.length*k:=by rw[←Nat.add_mul];congr 1;omega
 have e2:(xs.length+1)*k=xs.length*k+k:=Nat.succ_mul _ _
 have e3:(xs.length+1)*k≤cap*k:=Nat.mul_le_mul_right _ hc
 have nO:cur.toList.length=cap*k:=by simpa using hs
 refine⟨⟨by rw[fA hv'],.inr ⟨g,cap,_,by rw[hlen],hb,hg,by rw[hlen];exact hc,hcm,?_,?_⟩⟩,hv'⟩
 ·simp only[List.size_toArray,List.length_append,List.length_take,List.length_drop,nO,hxl,hdl]
  omega
 ·have hf:flat (xs.take i++x::xs.drop i)=cur.toList.take (i*k)++x.cells.toList++flat (xs.drop i):=by
   rw[mM,oI,AP hv,←ht,List.take_take,Nat.min_eq_left aj,List.append_assoc]
  rw[hlen,hf]
  refine List.take_left' ?_
  simp only[List.length_append,List.length_take,nO,hxl,hdl]
  omega
theorem Sl.Nn{x:Value}{U:Nat}{t:TypeId}(hx:Val ag k x)(hb:aD w U x.cells t):Sl w ag k (.slice (some ⟨U,0,none⟩) 1 1) [x]:=by
 refine⟨by simpa using hx,_,1,rfl,Nat.le_refl _,aC,.inr ⟨U,0,rfl,hb.lt,fun i y hy j c hc=>?_⟩⟩
 have hi:i=0:=by
  have:=(List.getElem?_eq_some_iff.1 hy).1
  simpa using this
 subst hi
 simp at hy
 subst hy
 have:=hb.rules.1 j
 rw[show 0+0*k+j=j by omega,this]
 simpa using hc
theorem Sl.EX{b off n cap:Nat}(h:Sl w ag k (.slice (some ⟨b,off,none⟩) n cap) xs){m:Nat}(hm:m≤xs.length):Sl w ag k (.slice (some ⟨b,off+m*k,none⟩) (xs.drop m).length (cap-m)) (xs.drop m):=by
 obtain⟨hv,a,cap',he,h1,h2,h3⟩:=h
 simp only[Value.slice.injEq] at he
 obtain⟨rfl,_,rfl⟩:=he
 refine⟨fun x hx=>hv x (List.mem_of_mem_drop hx),_,_,rfl,by rw[List.length_drop];omega,aj,?_⟩
 rcases h3 with rfl|⟨b',off',he,hb,hc⟩
 ·left;simp
 ·simp only[Option.some.injEq,Addr.mk.injEq,and_true] at he
  obtain⟨rfl,rfl⟩:=he
  refine .inr ⟨b,off+m*k,rfl,hb,fun j x hx=>?_⟩
  exact adK
theorem aD.shape{U:Nat}{cs:Array Value}{t:TypeId}(h:aD w U cs t):w.shape? U=some (t,cs.size):=by
 unfold aD at h
 simp[World.shape?,h]
theorem JY{xs:List Value}{i m:Nat}{x z:Value}(hi:i<xs.length)(hm:i+m=xs.length+1):
  (((xs.take i++List.replicate m z).take i++[x]++(xs.take i++List.replicate m z).drop (i+1)).take (i+1)++xs.drop i++((xs.take i++List.replicate m z).take i++[x]++(xs.take i++List.replicate m z).drop (i+1)).drop (i+1+(xs.drop i).length))=xs.take i++x::xs.drop i:=by
 have hl:(xs.take i).length=i:=zS
 have h1:(xs.take i++List.replicate m z).take i=xs.take i:=List.take_left' hl
 have h2:(xs.take i++[x]).length=i+1:=by simp[hl]
 rw[h1,List.take_left' h2,List.drop_of_length_le (l:=xs.take i++[x]++(xs.take i++List.replicate m z).drop (i+1)) (by simp only[List.length_append,List.length_drop,List.length_replicate,List.length_singleton,hl];omega)]
 simp
end
end Go.Tm
namespace Go.Tm
open Go Go.RowKit
variable {P:Program} {E:TypeId} {ag:Bool} {k base:Nat} {w:World} {xs:List Value} {v:Value}
theorem anZ{α:Type}{p:α→Bool}:∀{l:List α} {i:Nat} {x:α},l[i]?=some x→i<(l.takeWhile p).length→p x=true:=by
 intro l
 induction l with
 |nil=>intro i x h;simp at h
 |cons y r ih=>
  intro i x h hi
  rw[List.takeWhile_cons] at hi
  split at hi
  ·next hy=>
   cases i with
   |zero=>simp at h;subst h;exact hy
   |succ i=>exact ih BU OQ
  ·simp at hi
theorem agy{α:Type}{p:α→Bool}:∀{l:List α} {x:α},l[(l.takeWhile p).length]?=some x→p x=false:=by
 intro l
 induction l with
 |nil=>intro x h;simp at h
 |cons y r ih=>
  intro x h
  rw[List.takeWhile_cons] at h
  split at h
  ·next hy=>exact ih BU
  ·next hy=>simp at h;subst h;simpa using hy
theorem X9{α:Type}(p:α→Bool):∀(l:List α),l.take (l.takeWhile p).length=l.takeWhile p:=by
 intro l
 induction l with
 |nil=>rfl
 |cons y r ih=>
  rw[List.takeWhile_cons]
  split
  ·simp[ih]
  ·simp
theorem ajq{α:Type}(p:α→Bool)(l:List α):(l.takeWhile p).length≤l.length:=by
 have:=congrArg List.length (X9 p l)
 simp at this;omega
theorem ajr{α:Type}{p:α→Bool}{l:List α}{i:Nat}(hi:i≤l.length)(h1:∀j x,j<i→l[j]?=some x→p x=true)(h2:∀x,l[i]?=some x→p x=false):(l.takeWhile p).length=i:=by
 have hle:=ajq p l
 rcases Nat.lt_trichotomy (l.takeWhile p).length i with h|h|h
 ·have hx:=List.getElem?_eq_getElem (l:=l) (show(l.takeWhile p).length<l.length by omega)
  have a:=agy hx
  rw[h1 _ _ h hx] at a;cases a
 ·exact h
 ·have hx:=List.getElem?_eq_getElem (l:=l) (show i<l.length by omega)
  have a:=anZ hx h
  rw[h2 _ hx] at a;cases a
end Go.Tm
namespace Go.Tm
open Go Go.RowKit
section
variable {P:Program} {W:World} {ag:Bool} {k:Nat} {E:TypeId}
theorem Ef{t:TypeId}{cur cs:Array Value}:(W.alloc (.cells cur t)).setRow W.heap.size cs=W.alloc (.cells cs t):=by
 unfold World.setRow
 simp only[World.alloc]
 congr 1
 refine Array.ext aI (fun i h1 h2=>?_)
 simp only[Array.size_modify,Array.size_push] at h1
 rw[Array.getElem_modify]
 by_cases hi:i=W.heap.size
 ·subst hi;simp
 ·rw[if_neg (Ne.symm hi),Array.getElem_push_lt aj,Array.getElem_push_lt aj]
theorem aD.cells{b:Nat}{cs:Array Value}{t:TypeId}(h:aD W b cs t):Cells W b 0 cs.toList:=fun j v hv=>by
 rw[Nat.zero_add,h.rules.1 j];simpa using hv
theorem CO{ops:Array Oper}{rest:List Oper}{o:Oper}{a:Act}{Q:Exit→Act→World→Prop}(hgd:o.guard=none)(E:TypeId)(p q:Operand)(ho:o.op=.store E p q)
  {t:TypeId}{cur:Array Value}(x:Value)(ht:Ty P E k ag)(hx:Val ag k x)(hc:cur.size=k)(hp:a.eval p=.pointer (some ⟨W.heap.size,0,none⟩))(hq:a.eval q=x)
  (h:wpList P ops Q rest (a.put o.dst undef) (W.alloc (.cells x.cells t))):wpList P ops Q (o::rest) a (W.alloc (.cells cur t)):=by
 refine sj hgd E p q ho W.heap.size 0 hp x hq ht hx (aD.new W cur t) aj ?_
 have e:(cur.toList.take 0++x.cells.toList++cur.toList.drop (0+k)).toArray=x.cells:=aiu
 rw[e]
 rw[Ef]
 exact h
theorem FC{ops:Array Oper}{rest:List Oper}{o:Oper}{a:Act}{Q:Exit→Act→World→Prop}(hgd:o.guard=none)(E:TypeId)(p q:Operand)(ho:o.op=.store E p q)
  {b:Nat}{t:TypeId}{cur:Array Value}(hb:aD W b cur t)(x:Value)(ht:Ty P E k ag)(hx:Val ag k x)(hc:cur.size=k)(hp:a.eval p=.pointer (some ⟨b,0,none⟩))(hq:a.eval q=x)
  (h:∀W',aD W' b x.cells t→Below b W W'→W'.heap.size=W.heap.size→W.grownBy W' (some b)→wpList P ops Q rest (a.put o.dst undef) W'):wpList P ops Q (o::rest) a W:=by
 refine sj hgd E p q ho b 0 hp x hq ht hx hb aj (h _ ?_ ?_ ?_ ?_)
 ·have e:(cur.toList.take 0++x.cells.toList++cur.toList.drop (0+k)).toArray=x.cells:=aiu
  rw[e]
  exact setRow_heap W b cur _ _ (0,0) hb
 ·exact acA
 ·simp[World.setRow]
 ·exact acE
theorem aK{ops:Array Oper}{rest:List Oper}{o:Oper}{a:Act}{Q:Exit→Act→World→Prop}(hgd:o.guard=none)(E:TypeId)(p:Operand)(ho:o.op=.load E p)
  {b:Nat}{t:TypeId}(cs:Array Value)(ht:Ty P E k true)(hx:Val true k (.agg cs))(hb:aD W b cs t)(hp:a.eval p=.pointer (some ⟨b,0,none⟩))
  (h:wpList P ops Q rest (a.put o.dst (.agg cs)) W):wpList P ops Q (o::rest) a W:=
 aN hgd E p ho b 0 hp (.agg cs) ht hx hb.cells h
theorem aU{ops:Array Oper}{rest:List Oper}{o:Oper}{a:Act}{Q:Exit→Act→World→Prop}(hgd:o.guard=none)(E:TypeId)(p q:Operand)(ho:o.op=.store E p q)
  {t:TypeId}{cur:Array Value}(cs:Array Value)(ht:Ty P E k true)(hx:Val true k (.agg cs))(hc:cur.size=k)(hp:a.eval p=.pointer (some ⟨W.heap.size,0,none⟩))(hq:a.eval q=.agg cs)
  (h:wpList P ops Q rest (a.put o.dst undef) (W.alloc (.cells cs t))):wpList P ops Q (o::rest) a (W.alloc (.cells cur t)):=
 CO hgd E p q ho (.agg cs) ht hx hc hp hq h
theorem nM{ops:Array Oper}{rest:List Oper}{o:Oper}{a:Act}{Q:Exit→Act→World→Prop}(hgd:o.guard=none)(E:TypeId)(p q:Operand)(ho:o.op=.store E p q)
  {b:Nat}{t:TypeId}{cur:Array Value}(hb:aD W b cur t)(cs:Array Value)(ht:Ty P E k true)(hx:Val true k (.agg cs))(hc:cur.size=k)(hp:a.eval p=.pointer (some ⟨b,0,none⟩))(hq:a.eval q=.agg cs)
  (h:∀W',aD W' b cs t→Below b W W'→W'.heap.size=W.heap.size→W.grownBy W' (some b)→wpList P ops Q rest (a.put o.dst undef) W'):wpList P ops Q (o::rest) a W:=
 FC hgd E p q ho hb (.agg cs) ht hx hc hp hq h
end
end Go.Tm
namespace Go.Tm
open Go Go.RowKit
section
variable {P:Program} {W:World} {ag:Bool} {k:Nat}
theorem Ll{o:Oper}{a:Act}{K:Act→Prop}(E:TypeId)(p:Operand)(ho:o.op=.load E p)(b off:Nat)(hp:a.eval p=.pointer (some ⟨b,off,none⟩))(x:Value)(ht:Ty P E k ag)(hx:Val ag k x)
  (hc:Cells W b off x.cells.toList)(hb:b<W.heap.size)(hk:K (a.put o.dst x)):o.quiet P a (fun w'=>∃p:Regrown,w'=Go.Sort.grow (redrawn W p.d) p.os) K:=by
 refine⟨x,?_,hk⟩
 rintro w' ⟨q,rfl⟩
 have hc':Cells (Go.Sort.grow (redrawn W q.d) q.os) b off x.cells.toList:=fun j v hv=>oH (hc j v hv) hb _ _
 unfold Oper.quietAt execOp
 simp only[ho,hp,Instr.loadAt,Instr.sureAddr,Sem.run_bind,Sem.run_pure,Result.andThen_ok,iF ht hx hc']
 exact⟨rfl,rfl⟩
theorem pY{o:Oper}{a:Act}{K:Act→Prop}(E:TypeId)(p:Operand)(ho:o.op=.load E p)(b off:Nat)(cs:Array Value)(ht:Ty P E k true)(hx:Val true k (.agg cs))
  (hc:Cells W b off cs.toList)(hb:b<W.heap.size)(hp:a.eval p=.pointer (some ⟨b,off,none⟩))(hk:K (a.put o.dst (.agg cs))):o.quiet P a (fun w'=>∃p:Regrown,w'=Go.Sort.grow (redrawn W p.d) p.os) K:=
 Ll E p ho b off hp (.agg cs) ht hx hc hb hk
theorem oM{fn:Func}{p u:Tmp}{ty t:TypeId}(h:fn.results=#[.cell p ty,.tmp u])(tmps:Array Value){b:Nat}{cs:Array Value}(hp:tmps.getD p undef=.pointer (some ⟨b,0,none⟩))
  (ht:Ty P ty k true)(hx:Val true k (.agg cs))(hb:aD W b cs t):(results fn tmps).run P W=.ok (.tuple #[.agg cs,tmps.getD u undef]) W:=by
 rw[results_cell_tmp h,hp]
 have h1:(asAddr (.pointer (some ⟨b,0,none⟩))).run P W=.ok ⟨b,0,none⟩ W:=by simp[asAddr]
 rw[h1,Result.andThen_ok,iF ht hx hb.cells,Result.andThen_ok]
variable {F:Fence} {nF:Nat}
theorem qw{ops:Array Oper}{rest:List Oper}{o:Oper}{a:Act}{Q:Exit→Act→World→Prop}(hgd:o.guard=none)(E:TypeId)(p:Operand)(ho:o.op=.load E p)
  (b off:Nat)(cs:Array Value)(ht:Ty P E k true)(hx:Val true k (.agg cs))(hc:Cells W b off cs.toList)(hp:a.eval p=.pointer (some ⟨b,off,none⟩))
  (h:wpListIn F nF P ops Q rest (a.put o.dst (.agg cs)) W):wpListIn F nF P ops Q (o::rest) a W:=by
 refine wpListIn_plain hgd fun K hK=>?_
 unfold Oper.wpIn
 refine⟨by simp[Oper.about,ho],?_⟩
 rw[Oper.semAt_plain F _ _ (by rw[ho];intro c hc';cases hc')]
 simp only[execOp,ho,hp,Instr.loadAt,Instr.sureAddr,Sem.run_bind,Sem.run_pure,Result.andThen_ok,iF ht hx (show Cells W b off (Value.agg cs).cells.toList from hc)]
 exact hK _ _ h
theorem CQ{ops:Array Oper}{rest:List Oper}{o:Oper}{a:Act}{Q:Exit→Act→World→Prop}(hgd:o.guard=none)(E:TypeId)(p:Operand)(ho:o.op=.load E p)
  {b:Nat}{t:TypeId}(cs:Array Value)(ht:Ty P E k true)(hx:Val true k (.agg cs))(hb:aD W b cs t)(hp:a.eval p=.pointer (some ⟨b,0,none⟩))
  (h:wpListIn F nF P ops Q rest (a.put o.dst (.agg cs)) W):wpListIn F nF P ops Q (o::rest) a W:=
 qw hgd E p ho b 0 cs ht hx hb.cells hp h
theorem kL{ops:Array Oper}{rest:List Oper}{o:Oper}{a:Act}{Q:Exit→Act→World→Prop}(hgd:o.guard=none)(E:TypeId)(p q:Operand)(ho:o.op=.store E p q)
  {t:TypeId}{cur:Array Value}(cs:Array Value)(ht:Ty P E k true)(hx:Val true k (.agg cs))(hc:cur.size=k)(hp:a.eval p=.pointer (some ⟨W.heap.size,0,none⟩))(hq:a.eval q=.agg cs)
  (h:wpListIn F nF P ops Q rest (a.put o.dst undef) (W.alloc (.cells cs t))):wpListIn F nF P ops Q (o::rest) a (W.alloc (.cells cur t)):=by
 refine wpListIn_plain hgd fun K hK=>?_
 unfold Oper.wpIn
 refine⟨by simp[Oper.about,ho],?_⟩
 rw[Oper.semAt_plain F _ _ (by rw[ho];intro c hc';cases hc')]
 have hst:=oL ht hx (aD.new W cur t) (off:=0) aj
 have e:(cur.toList.take 0++(Value.agg cs).cells.toList++cur.toList.drop (0+k)).toArray=cs:=by
  rw[List.take_zero,List.nil_append,Nat.zero_add,List.drop_of_length_le aV,List.append_nil];exact Array.toArray_toList
 rw[e,Ef] at hst
 simp only[execOp,ho,hp,hq,Instr.storeAt,Instr.sureAddr,Sem.run_bind,Sem.run_pure,Result.andThen_ok,hst]
 exact hK _ _ h
theorem FD{ops:Array Oper}{rest:List Oper}{o:Oper}{a:Act}{Q:Exit→Act→World→Prop}(hw:Region.wanted o (yielded ops a.tmps)=true)(h:wpListIn F nF P ops Q ({o with guard:=none}::rest) a W):wpListIn F nF P ops Q (o::rest) a W:=by
 unfold wpListIn at h⊢
 rw[if_pos hw]
 rw[if_pos (by simp[Region.wanted])] at h
 exact h
end
end Go.Tm
namespace Go.Tm
open Go Go.RowKit
theorem alH{α:Type}(f:α→Value)(q:Value→Bool)(b:α→Bool)(hq:∀x,q (f x)=b x)(l:List α):
  (idx q (l.map f)=-1∧(l.takeWhile fun x=>!b x).length=l.length)∨((l.takeWhile fun x=>!b x).length<l.length∧idx q (l.map f)=((l.takeWhile fun x=>!b x).length:Nat)):=by
 rcases kU q (l.map f) with⟨h,hn⟩|⟨i,x,h,hx,hp,hn⟩
 ·left
  refine⟨h,ajr (Nat.le_refl _) (fun j x hj hx=>?_) (fun x hx=>by simp at hx)⟩
  have:=hn (f x) (List.mem_map_of_mem (List.mem_of_getElem? hx))
  rw[hq] at this
  simp[this]
 ·right
  obtain⟨y,hy,rfl⟩:∃y,l[i]?=some y∧f y=x:=by simpa using hx
  have hi:=(List.getElem?_eq_some_iff.1 hy).1
  have e:(l.takeWhile fun x=>!b x).length=i:=ajr aj (fun j z hj hz=>by
   have:=hn j (f z) hj (by simp[hz])
   rw[hq] at this
   simp[this]) (fun z hz=>by
   rw[hy] at hz
   cases hz
   rw[hq] at hp
   simp[hp])
  exact⟨aj,by rw[e];exact h⟩
theorem agz{α:Type}(p:α→Bool):∀(l:List α),l.drop (l.takeWhile p).length=l.dropWhile p:=by
 intro l
 induction l with
 |nil=>rfl
 |cons y r ih=>
  rw[List.takeWhile_cons,List.dropWhile_cons]
  split
  ·simp[ih]
  ·simp
section
variable {P:Program} {W:World} {ag:Bool} {k:Nat}
theorem cK(E:TypeId){ops:Array Oper}{rest:List Oper}{a:Act}{Q:Exit→Act→World→Prop}{d p ty pos XD g}(h:wpList P ops Q (⟨d,.load E p,ty,pos,XD,g⟩::rest) a W):wpList P ops Q (⟨d,.load E p,ty,pos,XD,g⟩::rest) a W:=h
theorem bS(E:TypeId){ops:Array Oper}{rest:List Oper}{a:Act}{Q:Exit→Act→World→Prop}{d p q ty pos XD g}(h:wpList P ops Q (⟨d,.store E p q,ty,pos,XD,g⟩::rest) a W):wpList P ops Q (⟨d,.store E p q,ty,pos,XD,g⟩::rest) a W:=h
theorem DF(t:TypeId){ops:Array Oper}{rest:List Oper}{a:Act}{Q:Exit→Act→World→Prop}{d n q ty pos XD g}(h:wpList P ops Q (⟨d,.buildSlice t n q,ty,pos,XD,g⟩::rest) a W):wpList P ops Q (⟨d,.buildSlice t n q,ty,pos,XD,g⟩::rest) a W:=h
theorem Px{ops:Array Oper}{rest:List Oper}{a:Act}{Q:Exit→Act→World→Prop}{d s x t ty pos XD g}(h:wpList P ops Q (⟨d,.call {callee:= .builtin .append,args:=#[s,x],argTypes:=#[t,t]},ty,pos,XD,g⟩::rest) a W):wpList P ops Q (⟨d,.call {callee:= .builtin .append,args:=#[s,x],argTypes:=#[t,t]},ty,pos,XD,g⟩::rest) a W:=h
theorem aeb(d:Option Nat){ops:Array Oper}{rest:List Oper}{a:Act}{Q:Exit→Act→World→Prop}{o ty pos XD g}(h:wpList P ops Q (⟨d,o,ty,pos,XD,g⟩::rest) a W):wpList P ops Q (⟨d,o,ty,pos,XD,g⟩::rest) a W:=h
end
end Go.Tm
namespace Go.Tm
open Go Go.RowKit
section
variable {P:Program} {ops:Array Oper} {S:World→Prop} {k:Nat}
theorem dh{o:Oper}{a:Act}(E:TypeId)(p:Operand)(ho:o.op=.load E p){b:Nat}{t:TypeId}(cs:Array Value)(ht:Ty P E k true)(hx:Val true k (.agg cs))
  (hw:Region.wanted o (yielded ops a.tmps)=true)(hp:a.eval p=.pointer (some ⟨b,0,none⟩))(hS:∀w,S w→aD w b cs t):YieldsIf P ops S o (.agg cs) a:=
 Or.inl ⟨hw,fun w hs=>by
  unfold execOp
  simp only[ho,hp,Instr.loadAt,Instr.sureAddr,Sem.run_bind,Sem.run_pure,Result.andThen_ok,iF ht hx (show Cells w b 0 (Value.agg cs).cells.toList from(hS w hs).cells)]⟩
end
end Go.Tm
namespace Go.Tm
open Go Go.RowKit
section
variable {P:Program} {w:World} {E:TypeId} {ag:Bool} {k:Nat}
theorem zo(t ty:TypeId)(T:Ty P E k ag)(i:TypeInfo)(z:Value)(bytes:Nat)(ht:P.underlying t=some (.slice E))(hi:P.info? E=some i)(hz:i.zero=some z)
  (hsize:i.size=k)(hby:i.bytes=bytes)(hzs:z.cells.size=k)
  (ao:Option Addr)(xs:List Value)(hsl:Sl w ag k (.slice ao xs.length xs.length) xs)
  (ad:Addr)(c:Nat)(ys:List Value)(LQ:Sl w ag k (.slice (some ad) ys.length c) ys)(hne:0<ys.length)
  (h63:xs.length+ys.length≤maxLen)(hbytes:(xs.length+ys.length)*bytes≤140737488355328):
  ∃g cap w',(Builtin.append_ #[t,t] ty #[.slice ao xs.length xs.length,.slice (some ad) ys.length c]).run P w=.ok (.slice (some ⟨g,0,none⟩) (xs.length+ys.length) cap) w'∧
   bI w' w.heap.size E ag k (.slice (some ⟨g,0,none⟩) (xs.length+ys.length) cap) (xs++ys)∧w.grownBy w' none:=by
 have hval:∀y∈xs++ys,Val ag k y:=by
  intro y hy
  rcases List.mem_append.1 hy with hy|hy
  ·exact hsl.val y hy
  ·exact LQ.val y hy
 have key:∃v' w',(Builtin.append_ #[t,t] ty #[.slice ao xs.length xs.length,.slice (some ad) ys.length c]).run P w=.ok v' w'∧w'.ownsRow w.heap.size E k v' (xs.length+ys.length) (flat xs++flat ys)∧w.grownBy w' none:=by
  cases ao with
  |some b=>exact run_append_arg_grows (P:=P) w t ty E i z k bytes ht hi hz hsize hby hzs T.pos b xs.length xs.length (flat xs) (fA hsl.val) hsl.news ad ys.length c (flat ys) (fA LQ.val) LQ.news aj h63 hbytes
  |none=>
   obtain⟨_,a',c',he,_,_,hf⟩:=hsl
   simp only[Value.slice.injEq] at he
   obtain⟨rfl,_⟩:=he
   rcases hf with rfl|⟨b,off,hb,_⟩
   ·obtain⟨v',w',hrun,r1,r2,_⟩:=run_append_own (P:=P) w w.heap.size t ty E i z k bytes ht hi hz hsize hby hzs T.pos (.slice none 0 0) 0 [] (World.ownsRow_nil w _ E k) ad ys.length c (flat ys) (fA LQ.val) LQ.news (jq LQ.val) h63 hbytes (Nat.le_refl _)
    exact⟨v',w',hrun,r1,r2⟩
   ·cases hb
 obtain⟨v',w',hr,hrow,hg⟩:=key
 have hown:bI w' w.heap.size E ag k v' (xs++ys):=⟨by rw[List.length_append,mM];exact hrow,hval⟩
 obtain⟨g,cap,he,_⟩:=hown.form (by rw[List.length_append];omega)
 rw[List.length_append] at he
 subst he
 exact⟨g,cap,w',hr,hown,hg⟩
theorem tV{o:Oper}{a:Act}{K:Act→World→Prop}{Q:Exit→Act→World→Prop}{s x:Operand}{t t':TypeId}(ho:o.op=.call {callee:= .builtin .append,args:=#[s,x],argTypes:=#[t,t']})
  {v u:Value}(hs:a.eval s=v)(hx:a.eval x=u){v':Value}{w':World}(hr:(Builtin.append_ #[t,t'] o.type #[v,u]).run P w=.ok v' w')(h:K (a.put o.dst v') w'):o.wp P a w K Q:=by
 unfold Oper.wp
 simp[execOp,ho,resolve,invoke,builtin,hs,hx,hr,Result.andThen]
 exact h
theorem Sl.xI{xs:List Value}{v:Value}{t:TypeId}(T:Ty P E k ag)(ht:P.underlying t=some (.slice E))(h:Sl w ag k v xs)(y:Int)(m:Nat)(hy:y=m)(hm:m≤xs.length):
  ∃ao,(∀W,(Instr.slice t v none (some (.int .i64 y)) (some (.int .i64 y))).run P W=.ok (.slice ao m m) W)∧Sl w ag k (.slice ao m m) (xs.take m):=by
 obtain⟨i,hi,hs⟩:=uq T
 obtain⟨hv,a,cap,rfl,h1,h2,h3⟩:=h
 subst hy
 have LD:m≤cap:=aj
 have Ey:(xs.take m).length=m:=zS
 refine⟨(if m=0 then a else a.map (·.add (0*k))),fun W=>?_,fun x hx=>hv x (List.mem_of_mem_take hx),_,m,by rw[Ey],by rw[Ey];exact Nat.le_refl _,aj,?_⟩
 ·exact acF
 ·rcases h3 with rfl|⟨b,off,rfl,hb,hc⟩
  ·left;simp
  ·by_cases hcm:m=0
   ·left
    subst hcm;rfl
   ·right
    exact aiy
end
end Go.Tm
namespace Go.Tm
open Go Go.RowKit
section
variable {P:Program} {w:World} {base:Nat} {E:TypeId} {ag:Bool} {k:Nat} {xs:List Value}
end
end Go.Tm
namespace Go.Tm
open Go Go.RowKit
section
variable {P:Program} {w:World} {base:Nat} {E:TypeId} {ag:Bool} {k:Nat} {v u:Value} {xs ys:List Value}
end
end Go.Tm
namespace Go.Tm
open Go Go.RowKit
variable {P:Program} {E:TypeId} {ag:Bool} {k base:Nat} {w:World} {xs:List Value} {v:Value}
theorem Sl.grown{w w':World}{row:Option Nat}(h:Sl w ag k v xs)(hg:w.grownBy w' row)(hne:∀b,v.ownBlock=some b→some b≠row):Sl w' ag k v xs:=by
 obtain⟨hv,a,cap,rfl,h1,h2,h3⟩:=h
 refine⟨hv,a,cap,rfl,h1,h2,?_⟩
 rcases h3 with rfl|⟨b,off,rfl,hlt,hc⟩
 ·exact .inl rfl
 ·refine .inr ⟨b,off,rfl,Nat.lt_of_lt_of_le hlt hg.size,fun i x hx j u' hu=>?_⟩
  rw[World.cell?_of_block (w:=w) (a:=⟨b,off+i*k+j,none⟩) (hg.block b hlt (hne b rfl))]
  exact hc i x hx j u' hu
theorem Sl.int{w:World}{a:Option Addr}{n cap:Nat}{l:List Int}(h:Sl w false 1 (.slice a n cap) (ints l)){i:Nat}{x:Int}(hx:l[i]?=some x):
  ∃b off,a=some ⟨b,off,none⟩∧b<w.heap.size∧w.cell? ⟨b,off+i,none⟩=some (.int .i64 x):=by
 obtain⟨b,off,ha,hb,hcell⟩:=h.at (Sz hx)
 have:=hcell 0 _ rfl
 exact⟨b,off,ha,hb,by simpa using this⟩
end Go.Tm
namespace Go.Tm
open Go Go.RowKit
section
variable {P:Program} {ops:Array Oper} {md:Region.Mode} {C:World→Prop}
def DU(P:Program)(md:Region.Mode)(ops:Array Oper)(C:World→Prop)(n:Nat)(L:Array Bool→Act→Prop):Nat→Array Bool→Act→Prop
 |0,ls,a=>L ls a
 |f+1,ls,a=>Region.ready md ops ls≠[]∧∀i∈Region.ready md ops ls,i<n∧qOp P ops C i (DU P md ops C n L f (ls.setIfInBounds i true)) a
theorem Lv{n g:Nat}{L:Array Bool→Act→Prop}{Q':Exit→Act→World→Prop}(hL:∀ls a w,C w→L ls a→wpAny P md ops Q' g ls a w):
  ∀(f:Nat) (ls:Array Bool) (a:Act) (w:World),C w→DU P md ops C n L f ls a→wpAny P md ops Q' (f+g) ls a w:=by
 intro f
 induction f with
 |zero=>intro ls a w hw h;rw[Nat.zero_add];exact hL _ _ _ hw h
 |succ f ih=>
  intro ls a w hw h
  rw[show f+1+g=(f+g)+1 by omega]
  exact⟨fun h0=>absurd h0 h.1,fun i hi=>wpOp_of_qOp hw (fun a' w' hw' h'=>ih _ a' w' hw' h') (h.2 i hi).2⟩
theorem MK{n i:Nat}{oi:Oper}{v:Value}{L:Array Bool→Act→Prop}(hi:ops[i]?=some oi)(Ow:∀(j:Nat) (o:Oper) cs b,ops[j]?=some o→o.op≠.select cs b)
  (hs:Region.sinkB md ops n=true)(hc:Region.chainB md ops n=true)(hn:n<ops.size)(CW:i<n)
  (hdone:∀ls a,L ls a→∀j∈Region.ready md ops ls,n≤j):
  ∀(f:Nat) (ls:Array Bool) (a:Act),HeadInv md ops n ls→
   (∀j oj,ops[j]?=some oj→j≠i→ls.getD j true=false→(∀e∈oj.after,Region.binds md e=true→e.on≠i)→oi.apart ops oj=true)→
   i∈Region.ready md ops ls→YieldsIn P ops C oi v a→
   DU P md ops C n L f (ls.setIfInBounds i true) (a.put oi.dst v)→DU P md ops C n L (f+1) ls a:=by
 intro f
 induction f with
 |zero=>
  intro ls a inv _ hr hy H
  have hun:=(mem_ready.1 hr).1
  refine⟨fun h=>OZ,fun j hj=>?_⟩
  have hjn:j<n:=Nat.lt_of_not_le fun h=>tail_waits hs hc hn inv _ i rfl CW hun j h hj
  refine⟨hjn,?_⟩
  by_cases QI:j=i
  ·subst QI;exact hy.qOp hi H
  ·have:=hdone _ _ H j (ready_mono hj QI);omega
 |succ f ih=>
  intro ls a inv XV hr hy H
  have hun:=(mem_ready.1 hr).1
  refine⟨fun h=>OZ,fun j hj=>?_⟩
  have hjn:j<n:=Nat.lt_of_not_le fun h=>tail_waits hs hc hn inv _ i rfl CW hun j h hj
  refine⟨hjn,?_⟩
  by_cases QI:j=i
  ·subst QI;exact hy.qOp hi H
  ·have h1:=(H.2 j (ready_mono hj QI)).2
   obtain⟨af_,oj,YK,hall⟩:=mem_ready.1 hj
   have akf:∀e∈oj.after,Region.binds md e=true→e.on≠i:=fun e he hb heq=>by
    have h1:=hall e he hb
    rw[heq,getD_both hun] at h1
    cases h1
   have h2:=qOp_put YK (XV j oj YK QI af_ akf) (fun cs b=>Ow i oi cs b hi) (fun cs b=>Ow j oj cs b YK) hy h1
   refine qOp_mono (fun a' h3=>ih (ls.setIfInBounds j true) a' (inv.set hj hjn) ?_ (ready_mono hr (Ne.symm QI)) h3.1 ?_) h2
   ·exact aiw
   ·rw[Array.setIfInBounds_comm _ _ QI]
    exact h3.2
theorem TK{n g:Nat}{Lq:Act→Prop}(Ow:Region.noSelect ops=true)(hs:Region.sinkB md ops n=true)(hc:Region.chainB md ops n=true)(hn:n<ops.size):
  ∀(l:List Oper) (k:Nat) (ls:Array Bool) (a:Act),(∀j,j<l.length→l[j]?=ops[k+j]?)→k+l.length=n→HeadInv md ops n ls→
  Region.lexHead md ops g l.length k ls=true→wpQuiet P ops C Lq l a→
  DU P md ops C n (fun ls' a'=>Region.seqB md ops g n ls'=true∧Lq a') l.length ls a:=by
 intro l
 induction l with
 |nil=>
  intro k ls a _ hk _ hB h
  have:k=n:=by simpa using hk
  subst this
  exact⟨by simpa[Region.lexHead] using hB,h⟩
 |cons o l ih=>
  intro k ls a hl hk inv hB h
  have h0:ops[k]?=some o:=by simpa using(hl 0 aI).symm
  simp only[List.length_cons,Region.lexHead,Bool.and_eq_true] at hB
  obtain⟨⟨hr,hf⟩,hB'⟩:=hB
  have hkn:k<n:=adl
  have hr':k∈Region.ready md ops ls:=by simpa using hr
  have hst:qOp P ops C k (wpQuiet P ops C Lq l) a:=by unfold qOp;simp only[h0];exact h
  obtain⟨v,hy,hK⟩:=yieldsIn_of_qOp h0 hst
  refine MK h0 (Region.noSelect_spec Ow) hs hc hn hkn (fun ls' a' hL=>seqB_ready hL.1) l.length ls a inv (Region.free_spec h0 hf) hr' hy ?_
  exact ih (k+1) _ _ (fun j hj=>by have:=hl (j+1) aV;simpa[Nat.add_assoc,Nat.add_comm 1 j] using this) adl (inv.set hr' hkn) hB' hK
theorem Ak{id:Nat}{Q:Exit→Act→World→Prop}{a:Act}{w:World}{l:List Oper}(n:Nat)(hm:P.follows .mixedOrders=true)(hB:Region.lexTailB .any l.toArray n=true)
  (hC:C {w with drawn:=w.drawn+1})
  (h:wpQuiet P l.toArray C (fun a'=>∀w',C w'→wpList P l.toArray Q (l.drop n) a' w') (l.take n) a):(Code.region id l.toArray true).wp P Q a w:=by
 simp only[Region.lexTailB,Bool.and_eq_true,decide_eq_true_eq] at hB
 obtain⟨⟨⟨⟨Ow,hn⟩,hs⟩,hc⟩,apY⟩:=hB
 have hn':n<l.length:=by simpa using hn
 have htl:(l.take n).length=n:=aV
 have hdl:(l.drop n).length=l.toArray.size-n:=aI
 have aoQ:HeadInv .any l.toArray n (Array.replicate l.toArray.size false):=
  ⟨aI,fun j oj _ hl=>(by rw[getD_replicate_false] at hl;cases hl),fun t _ ht=>getD_in (by simpa using ht) (getD_replicate_false _ _)⟩
 have H:=TK (md:= .any) (g:=l.toArray.size-n) Ow hs hc hn (l.take n) 0 _ a (fun j hj=>by
  have hj':j<n:=by rw[htl] at hj;exact hj
  simp[hj']) (by simpa using htl) aoQ (by rw[htl];exact apY) h
 refine wp_region_any hm ?_
 have H2:=Lv (Q':=Q) (g:=l.toArray.size-n) (fun ls a' w' hw' hL=>by
  have:=wpAny_of_seq (md:= .any) (Q':=Q) (l.drop n) n ls a' w' (fun j=>by simp[List.getElem?_drop]) (by rw[hdl];exact hL.1) (hL.2 w' hw')
  rwa[hdl] at this) _ _ _ _ hC H
 rw[htl,show n+(l.toArray.size-n)=l.toArray.size by omega] at H2
 exact H2
end
theorem gX{P:Program}{id:Nat}{Q:Exit→Act→World→Prop}{a:Act}{w:World}{l:List Oper}(n:Nat)(hm:P.follows .mixedOrders=true)(hB:Region.lexTailB .any l.toArray n=true)
  (h:wpQuiet P l.toArray (fun w'=>∃p:Regrown,w'=Go.Sort.grow (redrawn w p.d) p.os) (fun a'=>∀w',(∃p:Regrown,w'=Go.Sort.grow (redrawn w p.d) p.os)→wpList P l.toArray Q (l.drop n) a' w') (l.take n) a):(Code.region id l.toArray true).wp P Q a w:=
 Ak (C:=fun w'=>∃p:Regrown,w'=Go.Sort.grow (redrawn w p.d) p.os) n hm hB ⟨⟨w.drawn+1,#[]⟩,by rw[Go.Sort.grow_empty];rfl⟩ h
end Go.Tm
namespace Go.Tm
open Go Go.RowKit
def sU(o:Oper):Bool:=match o.op with|.defer _=>false|_=>true
theorem MH{o:Oper}(h:sU o=true):∀c,o.op≠.defer c:=by
 intro c e
 unfold sU at h
 rw[e] at h
 cases h
section
variable {P:Program} {ops:Array Oper} {md:Region.Mode} {L n:Nat}
theorem K_{o:Oper}{a:Act}{K:Act→World→Prop}{Q:Exit→Act→World→Prop}{r:Result Next}(h:o.upon P a K Q r):o.uponIn (Fence.wide.inRound L) n P a K Q r:=by
 unfold Oper.upon at h
 unfold Oper.uponIn
 split at h
 ·exact h
 ·exact h
 ·exact h
 ·exact⟨(fun hd=>by simp[Fence.wide] at hd),CallsIn.inRound L (callsIn_wide.2 h)⟩
 ·exact⟨(fun hd=>by simp[Fence.wide] at hd),fun c cs _=>by
   obtain⟨v,w',hr,hs⟩:=h c cs
   exact⟨v,w',hr,(stepsIn_wide (P:=P)).2 hs⟩⟩
 ·exact h
 ·exact h.elim
theorem V6{o:Oper}(hd:sU o=true){a:Act}{w:World}{K:Act→World→Prop}{Q:Exit→Act→World→Prop}(h:o.wp P a w K Q):o.wpIn (Fence.wide.inRound L) n P a w K Q:=by
 refine⟨fun _ _=>trivial,?_⟩
 rw[Fence.inRound_round,Oper.semAt_some L _ _ (MH hd)]
 exact K_ h
theorem Ml{C:World→Prop}(hd:∀(i:Nat) (o:Oper),ops[i]?=some o→sU o=true){i:Nat}{a:Act}{K:Act→Prop}{K':Act→World→Prop}{Q':Exit→Act→World→Prop}{w:World}(hC:C w)
  (h:∀a w',C w'→K a→K' a w')(hh:qOp P ops C i K a):wpOpIn (Fence.wide.inRound L) n P ops Q' i K' a w:=by
 unfold qOp at hh
 unfold wpOpIn
 cases ho:ops[i]? with
 |none=>rw[ho] at hh;exact h _ _ hC hh
 |some o=>
  rw[ho] at hh
  dsimp only at hh⊢
  split
  ·rename_i hw;rw[if_pos hw] at hh;exact V6 (hd i o ho) (Oper.wp_of_quiet hC h hh)
  ·rename_i hw;rw[if_neg hw] at hh;exact⟨fun _ _=>trivial,h _ _ hC hh⟩
theorem wpAnyIn_of_quiet{C:World→Prop}(hd:∀(i:Nat) (o:Oper),ops[i]?=some o→sU o=true){Q:Act→Prop}{Q':Exit→Act→World→Prop}(hQ:∀a w,C w→Q a→Q' .normal a w):
  ∀(fuel:Nat) (listed:Array Bool) (a:Act) (w:World),C w→wpAnyQ P md ops C Q fuel listed a→wpAnyIn (Fence.wide.inRound L) n P md ops Q' fuel listed a w:=by
 intro fuel
 induction fuel with
 |zero=>intro _ _ _ hw h;exact⟨h.1,hQ _ _ hw h.2⟩
 |succ f ih=>intro _ _ _ hw h;exact⟨fun h0=>hQ _ _ hw (h.1 h0),fun i hi=>Ml hd hw (fun a' w' hw' h'=>ih _ a' w' hw' h') (h.2 i hi)⟩
end
theorem amd{l:List Oper}(h:l.all sU=true):∀(i:Nat) (o:Oper),l.toArray[i]?=some o→sU o=true:=by
 intro i o ho
 have:l[i]?=some o:=by simpa using ho
 exact List.all_eq_true.1 h o (List.mem_of_getElem? this)
theorem qF{L m:Nat}{P:Program}{id:Nat}{Q:Exit→Act→World→Prop}{a:Act}{w:World}{l:List Oper}(hd:l.all sU=true)(hm:P.follows .mixedOrders=true)(hB:Region.lexB .any l.toArray=true)
  (h:wpQuiet P l.toArray (fun w'=>∃p:Regrown,w'=Go.Sort.grow (redrawn w p.d) p.os) (fun a'=>∀w',(∃p:Regrown,w'=Go.Sort.grow (redrawn w p.d) p.os)→Q .normal a' w') l a):(Code.region id l.toArray true).wpIn (Fence.wide.inRound L) m P Q a w:=by
 simp only[Region.lexB,Bool.and_eq_true] at hB
 refine wpIn_region_any hm ?_
 refine wpAnyIn_of_quiet (amd hd) (C:=fun w'=>∃p:Regrown,w'=Go.Sort.grow (redrawn w p.d) p.os) (Q:=fun a'=>∀w',(∃p:Regrown,w'=Go.Sort.grow (redrawn w p.d) p.os)→Q .normal a' w') (fun _ w' hw' h=>h w' hw') _ _ _ _ ⟨⟨w.drawn+1,#[]⟩,by rw[Go.Sort.grow_empty];rfl⟩ ?_
 have:=wpAnyQ_lex (C:=fun w'=>∃p:Regrown,w'=Go.Sort.grow (redrawn w p.d) p.os) (md:= .any) hB.1 l 0 (Array.replicate l.toArray.size false) a aI (by simpa using hB.2) h
 simpa using this
end Go.Tm
