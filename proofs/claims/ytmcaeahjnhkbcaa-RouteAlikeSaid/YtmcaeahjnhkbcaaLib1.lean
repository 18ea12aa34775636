/- What every argument of a law looks like in memory (Shaped), and one frame for all laws: a walk that returns true and writes nothing old proves the row's step. Conditions: none. -/
import Derived.WalkKit
import Derived.ProofKit
import Derived.OpenShut
import Derived.ShutString
import Derived.ChangeOld
import Derived.Below
import Derived.HandedShaped
import Derived.SizedLaws
namespace Go.Tm
open Go Go.ChangeShapes Go.WideShapes Go.ChangeAt Go.RowKit
set_option linter.unusedVariables false

/-- What reads as data at type t, at most f levels deep: the cells have the form of t; every slice and string is within the reach. -/
def Shaped (P : Program) (w : World) : Nat → TypeId → List Value → Prop
  | 0, _, _ => False
  | f + 1, t, cs =>
    match P.underlying t with
    | some .bool => ∃ b, cs = [.bool b]
    | some (.int k) => ∃ n, cs = [.int k n] ∧ (Lit.int k n).wf = true
    | some .string => ∃ s : ByteArray, cs = [.string s] ∧ s.size ≤ maxLen ∧ s.size ≤ reachBytes
    | some (.slice e) => ∃ a len cap, cs = [.slice a len cap] ∧ len ≤ cap ∧ cap ≤ maxLen ∧ cap * P.bytesOf e ≤ reachBytes ∧
        ((a = none ∧ len = 0 ∧ cap = 0) ∨
          ∃ x, a = some x ∧ ∀ i, i < cap → ∃ es, w.cells? 0 (x.add (i * P.cellsOf e)) (P.cellsOf e) = some es ∧ Shaped P w f e es)
    | some (.struct fs) => cs.length = P.cellsOf t ∧ ∀ (i : Nat) (g : Field), fs[i]? = some g → Shaped P w f g.type ((cs.drop g.offset).take (P.cellsOf g.type))
    | some (.array n e) => cs.length = P.cellsOf t ∧ ∀ i, i < n → Shaped P w f e ((cs.drop (i * P.cellsOf e)).take (P.cellsOf e))
    | _ => True

section
variable {H : Type} {enc : TypeId × Value → H} {P : Program} {w : World}

theorem weightsAll_mem {e : TypeId} {ds : List (DataW H)} {d : DataW H} (hd : d ∈ ds) : ∀ n ∈ d.weights P e, n ∈ DataW.weightsAll P e ds := by
  induction ds with
  | nil => cases hd
  | cons a r ih =>
    intro n hn
    simp only [DataW.weightsAll, List.mem_append]
    rcases List.mem_cons.1 hd with rfl | h
    · exact .inl hn
    · exact .inr (ih h n hn)

theorem shaped_of_trod : ∀ (fuel : Nat) (t : TypeId) (cs : List Value) (d : DataW H) (ps : List MemPlace),
    DataW.trod enc P w 0 (fun _ => true) true fuel t cs = some (d, ps) → (∀ n ∈ d.weights P t, n ≤ reachBytes) → Shaped P w fuel t cs := by
  intro fuel
  induction fuel with
  | zero => intro t cs d ps h; simp [DataW.trod] at h
  | succ f ih =>
    intro t cs d ps h hw
    unfold Shaped
    split
    · rename_i ht
      obtain ⟨b, hb, _⟩ := DataW.trod_bool ht h
      exact ⟨b, hb⟩
    · rename_i k ht
      obtain ⟨n, hn, _, hwf⟩ := DataW.trod_int ht h
      exact ⟨n, hn, hwf⟩
    · rename_i ht
      obtain ⟨s, hs, hx, hl⟩ := DataW.trod_string ht h
      refine ⟨s, hs, hl, ?_⟩
      simp only [Prod.mk.injEq] at hx
      have := hw s.size (by rw [hx.1]; simp [DataW.weights])
      exact this
    · rename_i e ht
      rcases DataW.trod_slice ht h with ⟨hcs, hx⟩ | ⟨a, len, cap, elems, rest, n, hf, hcs, hx, _, hle, hcap, hlen, hel, hsp, _⟩
      · exact ⟨none, 0, 0, hcs, Nat.le_refl _, Nat.zero_le _, by simp, .inl ⟨rfl, rfl, rfl⟩⟩
      · simp only [Nat.add_right_cancel_iff] at hf
        subst hf
        obtain ⟨hrl, hrest⟩ := hsp rfl
        simp only [Prod.mk.injEq] at hx
        have hwt : d.weights P t = (elems.length + rest.length) * P.bytesOf e :: (DataW.weightsAll P e (elems.map (·.1)) ++ DataW.weightsAll P e (rest.map (·.1))) := by
          rw [hx.1]; simp [DataW.weights, ht]
        refine ⟨some a, len, cap, hcs, hle, hcap, ?_, .inr ⟨a, rfl, ?_⟩⟩
        · have := hw ((elems.length + rest.length) * P.bytesOf e) (by rw [hwt]; simp)
          rwa [show elems.length + rest.length = cap by omega] at this
        · intro i hi
          have key : ∀ y : DataW H × List MemPlace, (y ∈ elems ∨ y ∈ rest) → (w.cells? 0 (a.add (i * P.cellsOf e)) (P.cellsOf e)).bind (DataW.trod enc P w 0 (fun _ => true) true f e) = some y →
              ∃ es, w.cells? 0 (a.add (i * P.cellsOf e)) (P.cellsOf e) = some es ∧ Shaped P w f e es := by
            intro y hy hb
            cases hc : w.cells? 0 (a.add (i * P.cellsOf e)) (P.cellsOf e) with
            | none => rw [hc] at hb; simp at hb
            | some es =>
              rw [hc] at hb
              simp only [Option.bind_some] at hb
              obtain ⟨y1, y2⟩ := y
              refine ⟨es, rfl, ih e es y1 y2 hb fun n hn => hw n ?_⟩
              rw [hwt]
              refine List.mem_cons_of_mem _ (List.mem_append.2 ?_)
              rcases hy with hy | hy
              · exact .inl (weightsAll_mem (List.mem_map.2 ⟨_, hy, rfl⟩) n hn)
              · exact .inr (weightsAll_mem (List.mem_map.2 ⟨_, hy, rfl⟩) n hn)
          by_cases hil : i < len
          · have he := hel i hil
            have hget : elems[i]? = some elems[i] := List.getElem?_eq_getElem (by omega)
            exact key elems[i] (.inl (List.getElem_mem _)) (he.trans hget)
          · have he := hrest (i - len) (by omega)
            rw [show len + (i - len) = i by omega] at he
            have hget : rest[i - len]? = some rest[i - len] := List.getElem?_eq_getElem (by omega)
            exact key rest[i - len] (.inr (List.getElem_mem _)) (he.trans hget)
    · rename_i fs ht
      obtain ⟨xs, n, hf, hx, hl, hlen, hfs⟩ := DataW.trod_struct ht h
      simp only [Nat.add_right_cancel_iff] at hf
      subst hf
      refine ⟨hl, fun i g hg => ?_⟩
      have h1 := hfs i g hg
      have hi : i < fs.size := (Array.getElem?_eq_some_iff.1 hg).1
      have hget : xs[i]? = some xs[i] := List.getElem?_eq_getElem (by omega)
      refine ih g.type _ xs[i].1 xs[i].2 (h1.trans hget) fun n hn => hw n ?_
      simp only [Prod.mk.injEq] at hx
      rw [hx.1]
      simp only [DataW.weights, ht]
      refine DataW.weights_mem_each (j := i) (t := g.type) (d := xs[i].1) ?_ ?_ n hn
      · simp only [List.getElem?_map, Array.getElem?_toList, hg, Option.map_some]
      · simp only [List.getElem?_map, hget, Option.map_some]
    · rename_i n e ht
      obtain ⟨xs, m, hf, hx, hl, hlen, hfs⟩ := DataW.trod_array ht h
      simp only [Nat.add_right_cancel_iff] at hf
      subst hf
      refine ⟨hl, fun i hi => ?_⟩
      have h1 := hfs i hi
      have hget : xs[i]? = some xs[i] := List.getElem?_eq_getElem (by omega)
      refine ih e _ xs[i].1 xs[i].2 (h1.trans hget) fun n hn => hw n ?_
      simp only [Prod.mk.injEq] at hx
      rw [hx.1]
      simp only [DataW.weights, ht]
      exact weightsAll_mem (List.mem_map.2 ⟨_, List.getElem_mem _, rfl⟩) n hn
    · trivial
end

/-- An argument of type t: a struct or array comes as its cells, all else as one cell; it is shaped. -/
def ArgShaped (P : Program) (W : World) (t : TypeId) (v : Value) : Prop :=
  match P.underlying t with
  | some (.struct _) | some (.array _ _) => ∃ cs fuel, v = .agg cs ∧ Shaped P W fuel t cs.toList
  | _ => ∃ fuel, Shaped P W fuel t [v]

theorem argShaped_of {H : Type} {enc : TypeId × Value → H} {P : Program} {W : World} {base : Nat} {t : TypeId} {v : Value} {d : DataW H} {ps : List MemPlace}
    (hv : Value.okWide P W .any base t v) (h : DataW.Trod enc P W 0 (fun _ => true) true t v d ps) (hw : ∀ n ∈ d.weights P t, n ≤ reachBytes) : ArgShaped P W t v := by
  obtain ⟨fuel, hf⟩ := h
  have hs := shaped_of_trod fuel t _ d ps hf hw
  unfold ArgShaped
  unfold Value.okWide at hv
  split at hv
  · rename_i ht
    simp only [ht]
    obtain ⟨cs, rfl, _⟩ := hv
    exact ⟨cs, fuel, rfl, by simpa [Value.cells] using hs⟩
  · rename_i ht
    simp only [ht]
    obtain ⟨cs, rfl, _⟩ := hv
    exact ⟨cs, fuel, rfl, by simpa [Value.cells] using hs⟩
  · rename_i h1 h2
    split
    · rename_i ht; exact absurd ht (h1 _)
    · rename_i ht; exact absurd ht (h2 _ _)
    · refine ⟨fuel, ?_⟩
      have hcells : v.cells = #[v] := by
        unfold Cell.okWide at hv
        cases v with
        | agg cs => exfalso; revert hv; unfold Cell.ok; split <;> simp_all
        | _ => rfl
      simpa [hcells] using hs
end Go.Tm
namespace Go.Tm
open Go Go.ChangeShapes Go.WideShapes Go.ChangeAt Go.RowKit
set_option linter.unusedVariables false
section
variable {H : Type} {enc : TypeId × Value → H} {P : Program}

theorem trodAll_get {w : World} {base : Nat} {spare : Nat → Bool} {held : Bool} : ∀ {ts : List TypeId} {vs : List Value} {ds : List (DataW H)} {ps : List MemPlace},
    DataW.TrodAll enc P w base spare held ts vs ds ps → vs.length = ts.length ∧ ds.length = ts.length ∧
      ∀ (j : Nat) (t : TypeId) (v : Value), ts[j]? = some t → vs[j]? = some v → ∃ d p, ds[j]? = some d ∧ DataW.Trod enc P w base spare held t v d p
  | [], [], [], _, _ => ⟨rfl, rfl, fun j t v h => by simp at h⟩
  | t :: ts, v :: vs, d :: ds, _, ⟨p, q, h1, h2, _⟩ => by
    obtain ⟨a, b, c⟩ := trodAll_get h2
    refine ⟨by simp [a], by simp [b], fun j t' v' ht hv => ?_⟩
    cases j with
    | zero => simp at ht hv; subst ht; subst hv; exact ⟨d, p, rfl, h1⟩
    | succ j => simp at ht hv; simpa using c j t' v' ht hv
  | [], [], _ :: _, _, h => h.elim
  | [], _ :: _, _, _, h => h.elim
  | _ :: _, [], _, _, h => h.elim
  | _ :: _, _ :: _, [], _, h => h.elim

theorem trodAll_stays (hl : laidOutB P = true) {W W' : World} (hb : Below W.heap.size W W') : ∀ {ts : List TypeId} {vs : List Value} {ds : List (DataW H)} {ps : List MemPlace},
    ts.all (fun t => P.readableRec t && decide (t < P.types.size)) = true → DataW.TrodAll enc P W 0 (fun _ => true) true ts vs ds ps →
    DataW.TrodAll enc P W' 0 (fun b => decide (b < W.heap.size)) true ts vs ds ps
  | [], [], [], _, _, h => h
  | t :: ts, v :: vs, d :: ds, _, ha, ⟨p, q, h1, h2, hpq⟩ => by
    simp only [List.all_cons, Bool.and_eq_true, decide_eq_true_eq] at ha
    refine ⟨p, q, Below.trod hl ha.1.1 ha.1.2 h1 hb ?_, trodAll_stays hl hb ha.2 h2, hpq⟩
    obtain ⟨m, hm⟩ := h1
    exact DataW.trod_lt m _ _ _ hm
  | [], [], _ :: _, _, _, h => h.elim
  | [], _ :: _, _, _, _, h => h.elim
  | _ :: _, [], _, _, _, h => h.elim
  | _ :: _, _ :: _, [], _, _, h => h.elim
end

/-- ONE FRAME FOR ALL LAWS without package-level variables: a walk that returns true and writes nothing that was there. -/
theorem law_lifted {C : Checked} {os : Os} {f : FuncId} {fn : Func} {s : ChangeSpec} {H : Type} {enc : TypeId × Value → H}
    (own : ownKnob C.prog.godebug = none) (laid : laidOutB C.prog = true) (started : os.Started) (noInit : C.prog.inits.idxOf? f = none) (hfn : C.prog.funcs[f]? = some fn)
    (hts : fn.params.toList.all (fun t => C.prog.readableRec t && decide (t < C.prog.types.size)) = true)
    {tb : TypeId} (hbool : C.prog.underlying tb = some .bool) (hres : fn.resultTypes = #[tb]) (hvars : s.vars = [])
    (hspec : ∀ ds : List (DataW H), ds.length = fn.params.size → s.fn H ds = { results := [.lit (.bool true)], args := ds })
    (wit : ∃ (w : World) (tape : Tape) (i : Input), w.os = os ∧ (w.forCall tape i).Shaped C.prog ∧ i.vars = [] ∧ Input.okWide C.prog (w.forCall tape i) .any w.heap.size f i ∧
      s.pre6 enc C.prog fn [] false (w.forCall tape i).memory i.args ∧ ({} : Assume).holds C.prog (lone (Frame.enter C.prog f i.args .normal) [] (w.forCall tape i)))
    (walk : ∀ (W : World) (args : Array Value), args.size = fn.params.size →
      (∀ (j : Nat) (t : TypeId) (v : Value), fn.params[j]? = some t → args[j]? = some v → ArgShaped C.prog W t v) →
      Calls C.prog f args W fun e w' => e = .returned (.bool true) ∧ Below W.heap.size W w') :
    ReturnsInHanded {} C os f .any (s.pre6 enc C.prog fn [] false) (s.post enc C.prog fn false true false false) := by
  refine returnsInHanded_of_change_shaped own started noInit hfn wit ?_
  intro W base args ds gs before hval hW hcnd hsz hsh _
  have hW' := hW
  obtain ⟨p, q, hA, hV, rfl, hfz, hnd⟩ := hW
  rw [hvars] at hV
  obtain ⟨rfl, rfl⟩ := trodVars_none hV
  obtain ⟨hl1, hl2, hget⟩ := trodAll_get hA
  have hsize : args.size = fn.params.size := by simpa using hl1
  have hdl : ds.length = fn.params.size := by simpa using hl2
  refine (walk W args hsize ?_).mono fun e W' ⟨he, bel⟩ => ?_
  · intro j t v ht hv
    have ht' : fn.params.toList[j]? = some t := by simpa using ht
    obtain ⟨d, p', hd, htr⟩ := hget j t v ht' (by simpa using hv)
    refine argShaped_of (hval j t v ht hv) htr fun n hn => ?_
    have h2 := List.all_eq_true.1 hsz n (DataW.weights_mem_each (j := j) (t := t) (d := d) ?_ ?_ n hn)
    · simpa using h2
    · rw [List.getElem?_append_left (List.getElem?_eq_some_iff.1 ht').1]; exact ht'
    · rw [List.getElem?_append_left (List.getElem?_eq_some_iff.1 hd).1]; exact hd
  · subst he
    have hsp := hspec ds hdl
    have hnil : ds ++ ([] : List (DataW H)) = ds := List.append_nil _
    refine ⟨_, rfl, ds, [], p ++ [], [], p, [], hW', ?_, ?_, ?_, bel.frame _, fun h => by cases h⟩
    · rw [hnil, hsp, hres]
      exact trodAll_mk1 (shut_bool hbool _)
    · rw [hnil, hsp]
      exact trodAll_stays laid bel hts hA
    · rw [hvars, hnil, hsp]
      rfl
end Go.Tm
namespace Go.Tm
open Go Go.ChangeShapes Go.WideShapes Go.ChangeAt Go.RowKit
section
variable {P : Program} {W : World} {t : TypeId} {v : Value}

theorem shaped_int {k : IntKind} {f : Nat} {cs : List Value} (ht : P.underlying t = some (.int k)) (h : Shaped P W f t cs) : ∃ n, cs = [.int k n] ∧ k.min ≤ n ∧ n ≤ k.max := by
  cases f with
  | zero => exact h.elim
  | succ f =>
    unfold Shaped at h
    rw [ht] at h
    obtain ⟨n, rfl, hn⟩ := h
    exact ⟨n, rfl, by simpa [Lit.wf] using hn⟩
theorem shaped_bool {f : Nat} {cs : List Value} (ht : P.underlying t = some .bool) (h : Shaped P W f t cs) : ∃ b, cs = [.bool b] := by
  cases f with
  | zero => exact h.elim
  | succ f => unfold Shaped at h; rw [ht] at h; exact h
theorem shaped_string {f : Nat} {cs : List Value} (ht : P.underlying t = some .string) (h : Shaped P W f t cs) : ∃ s : ByteArray, cs = [.string s] ∧ s.size ≤ maxLen ∧ s.size ≤ reachBytes := by
  cases f with
  | zero => exact h.elim
  | succ f => unfold Shaped at h; rw [ht] at h; exact h
theorem shaped_slice {e : TypeId} {f : Nat} {cs : List Value} (ht : P.underlying t = some (.slice e)) (h : Shaped P W f t cs) :
    ∃ a len cap, cs = [.slice a len cap] ∧ len ≤ cap ∧ cap ≤ maxLen ∧ cap * P.bytesOf e ≤ reachBytes ∧
        ((a = none ∧ len = 0 ∧ cap = 0) ∨
          ∃ x g, a = some x ∧ ∀ i, i < cap → ∃ es, W.cells? 0 (x.add (i * P.cellsOf e)) (P.cellsOf e) = some es ∧ Shaped P W g e es) := by
  cases f with
  | zero => exact h.elim
  | succ f =>
    unfold Shaped at h; rw [ht] at h
    obtain ⟨a, len, cap, h1, h2, h3, h4, h5⟩ := h
    refine ⟨a, len, cap, h1, h2, h3, h4, ?_⟩
    rcases h5 with h5 | ⟨x, hx, h5⟩
    · exact .inl h5
    · exact .inr ⟨x, f, hx, h5⟩
theorem shaped_struct {fs : Array Field} {f : Nat} {cs : List Value} (ht : P.underlying t = some (.struct fs)) (h : Shaped P W f t cs) :
    ∃ g, cs.length = P.cellsOf t ∧ ∀ (i : Nat) (x : Field), fs[i]? = some x → Shaped P W g x.type ((cs.drop x.offset).take (P.cellsOf x.type)) := by
  cases f with
  | zero => exact h.elim
  | succ f => unfold Shaped at h; rw [ht] at h; exact ⟨f, h⟩
theorem shaped_array {n : Nat} {e : TypeId} {f : Nat} {cs : List Value} (ht : P.underlying t = some (.array n e)) (h : Shaped P W f t cs) :
    ∃ g, cs.length = P.cellsOf t ∧ ∀ i, i < n → Shaped P W g e ((cs.drop (i * P.cellsOf e)).take (P.cellsOf e)) := by
  cases f with
  | zero => exact h.elim
  | succ f => unfold Shaped at h; rw [ht] at h; exact ⟨f, h⟩

theorem arg_int {k : IntKind} (ht : P.underlying t = some (.int k)) (h : ArgShaped P W t v) : ∃ n, v = .int k n ∧ k.min ≤ n ∧ n ≤ k.max := by
  unfold ArgShaped at h
  rw [ht] at h
  obtain ⟨f, hf⟩ := h
  obtain ⟨n, hn, h2⟩ := shaped_int ht hf
  exact ⟨n, by simpa using hn, h2⟩
theorem arg_bool (ht : P.underlying t = some .bool) (h : ArgShaped P W t v) : ∃ b, v = .bool b := by
  unfold ArgShaped at h
  rw [ht] at h
  obtain ⟨f, hf⟩ := h
  obtain ⟨n, hn⟩ := shaped_bool ht hf
  exact ⟨n, by simpa using hn⟩
theorem arg_string (ht : P.underlying t = some .string) (h : ArgShaped P W t v) : ∃ s : ByteArray, v = .string s ∧ s.size ≤ maxLen ∧ s.size ≤ reachBytes := by
  unfold ArgShaped at h
  rw [ht] at h
  obtain ⟨f, hf⟩ := h
  obtain ⟨n, hn, h2⟩ := shaped_string ht hf
  exact ⟨n, by simpa using hn, h2⟩
theorem arg_struct {fs : Array Field} (ht : P.underlying t = some (.struct fs)) (h : ArgShaped P W t v) : ∃ cs f, v = .agg cs ∧ Shaped P W f t cs.toList := by
  unfold ArgShaped at h
  rw [ht] at h
  exact h
theorem arg_array {n : Nat} {e : TypeId} (ht : P.underlying t = some (.array n e)) (h : ArgShaped P W t v) : ∃ cs f, v = .agg cs ∧ Shaped P W f t cs.toList := by
  unfold ArgShaped at h
  rw [ht] at h
  exact h
theorem arg_slice {e : TypeId} (ht : P.underlying t = some (.slice e)) (h : ArgShaped P W t v) : ∃ f, Shaped P W f t [v] := by
  unfold ArgShaped at h
  rw [ht] at h
  exact h


theorem shaped_wf {k : IntKind} {f : Nat} {cs : List Value} (ht : P.underlying t = some (.int k)) (h : Shaped P W f t cs) : ∃ n, cs = [.int k n] ∧ (Lit.int k n).wf = true := by
  cases f with
  | zero => exact h.elim
  | succ f =>
    unfold Shaped at h
    rw [ht] at h
    exact h

theorem shaped_ints {n : Nat} {e : TypeId} {k : IntKind} {f : Nat} {cs : List Value} (ht : P.underlying t = some (.array n e)) (he : P.underlying e = some (.int k))
    (h1 : P.cellsOf e = 1) (hn : P.cellsOf t = n) (h : Shaped P W f t cs) : ∃ l : List Int, l.length = n ∧ cs = l.map (Value.int k) ∧ ∀ x ∈ l, (Lit.int k x).wf = true := by
  obtain ⟨g, hl, hi⟩ := shaped_array ht h
  rw [hn] at hl
  rw [h1] at hi
  clear h ht hn
  induction n generalizing cs with
  | zero => exact ⟨[], rfl, by simpa using hl, by simp⟩
  | succ n ih =>
    cases cs with
    | nil => simp at hl
    | cons c cs =>
      obtain ⟨x, hx, hw⟩ := shaped_wf he (by simpa using hi 0 (by omega))
      simp only [List.cons.injEq, and_true] at hx
      obtain ⟨l, h1, h2, h3⟩ := ih (by simpa using hl) (fun i hi' => by simpa using hi (i + 1) (by omega))
      refine ⟨x :: l, by simp [h1], by simp [hx, h2], ?_⟩
      intro y hy
      rcases List.mem_cons.1 hy with rfl | hy
      · exact hw
      · exact h3 y hy

theorem arg_wf {k : IntKind} (ht : P.underlying t = some (.int k)) (h : ArgShaped P W t v) : ∃ n, v = .int k n ∧ (Lit.int k n).wf = true := by
  unfold ArgShaped at h
  rw [ht] at h
  obtain ⟨f, hf⟩ := h
  obtain ⟨n, hn, h2⟩ := shaped_wf ht hf
  exact ⟨n, by simpa using hn, h2⟩

/-- A list whose chunks are known, written out. -/
theorem chunk1 {α : Type} {cs : List α} {i : Nat} {a : α} (h : (cs.drop i).take 1 = [a]) : cs[i]? = some a := by
  have h1 : ((cs.drop i).take 1)[0]? = some a := by rw [h]; rfl
  rw [List.getElem?_take, if_pos (by omega), List.getElem?_drop] at h1
  simpa using h1
theorem list3 {α : Type} {cs : List α} {a b c : α} (hl : cs.length = 3) (h0 : cs[0]? = some a) (h1 : cs[1]? = some b) (h2 : cs[2]? = some c) : cs = [a, b, c] := by
  match cs, hl with
  | [x, y, z], _ => simp at h0 h1 h2; subst h0 h1 h2; rfl
theorem list2 {α : Type} {cs : List α} {a b : α} (hl : cs.length = 2) (h0 : cs[0]? = some a) (h1 : cs[1]? = some b) : cs = [a, b] := by
  match cs, hl with
  | [x, y], _ => simp at h0 h1; subst h0 h1; rfl
theorem list4 {α : Type} {cs : List α} {a b c d : α} (hl : cs.length = 4) (h0 : cs[0]? = some a) (h1 : cs[1]? = some b) (h2 : cs[2]? = some c) (h3 : cs[3]? = some d) : cs = [a, b, c, d] := by
  match cs, hl with
  | [x, y, z, u], _ => simp at h0 h1 h2 h3; subst h0 h1 h2 h3; rfl
theorem list5 {α : Type} {cs : List α} {a b c d e : α} (hl : cs.length = 5) (h0 : cs[0]? = some a) (h1 : cs[1]? = some b) (h2 : cs[2]? = some c) (h3 : cs[3]? = some d) (h4 : cs[4]? = some e) : cs = [a, b, c, d, e] := by
  match cs, hl with
  | [x, y, z, u, v], _ => simp at h0 h1 h2 h3 h4; subst h0 h1 h2 h3 h4; rfl

/-- A list of cells with a number of members: written out. -/
theorem arr1 {α : Type} {a : Array α} (h : a.size = 1) : ∃ x0, a = #[x0] := by
  obtain ⟨l⟩ := a; match l, h with | [x0], _ => exact ⟨x0, rfl⟩
theorem arr2 {α : Type} {a : Array α} (h : a.size = 2) : ∃ x0 x1, a = #[x0, x1] := by
  obtain ⟨l⟩ := a; match l, h with | [x0, x1], _ => exact ⟨x0, x1, rfl⟩
theorem arr3 {α : Type} {a : Array α} (h : a.size = 3) : ∃ x0 x1 x2, a = #[x0, x1, x2] := by
  obtain ⟨l⟩ := a; match l, h with | [x0, x1, x2], _ => exact ⟨x0, x1, x2, rfl⟩
end
end Go.Tm
