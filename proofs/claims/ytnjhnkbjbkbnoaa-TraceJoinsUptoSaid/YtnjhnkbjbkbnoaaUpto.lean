/- The second form of a statement: what the bound on the bulk says of each slice that comes in; one frame for all such laws. Conditions: none. -/
import Derived.Test.YtnjhnkbjbkbnoaaRows
import Derived.Test.YtnjhnkbjbkbnoaaLib1
import Derived.JoinedCond
import Derived.Deep.CondSized
namespace Go.Proofs.Ytnjhnkbjbkbnoaa
open Go Go.ChangeShapes Go.WideShapes Go.ChangeAt Go.RowKit Go.Tm
set_option linter.unusedVariables false

theorem bulk_one {H : Type} (d : DataW H) : 1 ≤ Rows.uptoBulk d := by
  cases d with
  | lit l => cases l <;> simp [Rows.uptoBulk]
  | nil => simp [Rows.uptoBulk]
  | ptr d => simp [Rows.uptoBulk]
  | slice elems spare => simp [Rows.uptoBulk]
  | agg parts => simp [Rows.uptoBulk]
  | iface t d => simp [Rows.uptoBulk]
  | map entries => simp [Rows.uptoBulk]
  | held h => simp [Rows.uptoBulk]
theorem bulk_part {H : Type} {d : DataW H} {l : List (DataW H)} (h : d ∈ l) : Rows.uptoBulk d ≤ Rows.uptoBulkAll l := by
  induction l with
  | nil => cases h
  | cons x r ih =>
    simp only [Rows.uptoBulkAll]
    cases List.mem_cons.1 h with
    | inl e => subst e; omega
    | inr e => have := ih e; omega
theorem bulk_length {H : Type} (l : List (DataW H)) : l.length ≤ Rows.uptoBulkAll l := by
  induction l with
  | nil => simp [Rows.uptoBulkAll]
  | cons x r ih => have := bulk_one x; simp only [Rows.uptoBulkAll, List.length_cons]; omega

/-- As Shaped; each slice has at most B places. -/
def ShapedUp (P : Program) (w : World) (B : Nat) : Nat → TypeId → List Value → Prop
  | 0, _, _ => False
  | f + 1, t, cs =>
    match P.underlying t with
    | some (.slice e) => ∃ a len cap, cs = [.slice a len cap] ∧ len ≤ cap ∧ cap ≤ B ∧
        ((a = none ∧ len = 0 ∧ cap = 0) ∨
          ∃ x, a = some x ∧ ∀ i, i < cap → ∃ es, w.cells? 0 (x.add (i * P.cellsOf e)) (P.cellsOf e) = some es ∧ ShapedUp P w B f e es)
    | some (.struct fs) => ∀ (i : Nat) (g : Field), fs[i]? = some g → ShapedUp P w B f g.type ((cs.drop g.offset).take (P.cellsOf g.type))
    | some (.array n e) => ∀ i, i < n → ShapedUp P w B f e ((cs.drop (i * P.cellsOf e)).take (P.cellsOf e))
    | _ => True

section
variable {H : Type} {enc : TypeId × Value → H} {P : Program} {w : World}

theorem shapedUp_of_trod (B : Nat) : ∀ (fuel : Nat) (t : TypeId) (cs : List Value) (d : DataW H) (ps : List MemPlace),
    DataW.trod enc P w 0 (fun _ => true) true fuel t cs = some (d, ps) → Rows.uptoBulk d ≤ B → ShapedUp P w B fuel t cs := by
  intro fuel
  induction fuel with
  | zero => intro t cs d ps h; simp [DataW.trod] at h
  | succ f ih =>
    intro t cs d ps h hw
    unfold ShapedUp
    split
    · rename_i e ht
      rcases DataW.trod_slice ht h with ⟨hcs, hx⟩ | ⟨a, len, cap, elems, rest, n, hf, hcs, hx, _, hle, hcap, hlen, hel, hsp, _⟩
      · exact ⟨none, 0, 0, hcs, Nat.le_refl _, Nat.zero_le _, .inl ⟨rfl, rfl, rfl⟩⟩
      · simp only [Nat.add_right_cancel_iff] at hf
        subst hf
        obtain ⟨hrl, hrest⟩ := hsp rfl
        simp only [Prod.mk.injEq] at hx
        have hb : Rows.uptoBulkAll (elems.map (·.1)) + Rows.uptoBulkAll (rest.map (·.1)) + 1 ≤ B := by
          rw [hx.1] at hw
          simpa only [Rows.uptoBulk] using hw
        have h1 := bulk_length (elems.map (·.1))
        have h2 := bulk_length (rest.map (·.1))
        simp only [List.length_map] at h1 h2
        refine ⟨some a, len, cap, hcs, hle, by omega, .inr ⟨a, rfl, ?_⟩⟩
        intro i hi
        have key : ∀ y : DataW H × List MemPlace, (y ∈ elems ∨ y ∈ rest) → (w.cells? 0 (a.add (i * P.cellsOf e)) (P.cellsOf e)).bind (DataW.trod enc P w 0 (fun _ => true) true f e) = some y →
            ∃ es, w.cells? 0 (a.add (i * P.cellsOf e)) (P.cellsOf e) = some es ∧ ShapedUp P w B f e es := by
          intro y hy hbd
          cases hc : w.cells? 0 (a.add (i * P.cellsOf e)) (P.cellsOf e) with
          | none => rw [hc] at hbd; simp at hbd
          | some es =>
            rw [hc] at hbd
            simp only [Option.bind_some] at hbd
            obtain ⟨y1, y2⟩ := y
            refine ⟨es, rfl, ih e es y1 y2 hbd ?_⟩
            rcases hy with hy | hy
            · have := bulk_part (l := elems.map (·.1)) (d := y1) (List.mem_map.2 ⟨_, hy, rfl⟩)
              omega
            · have := bulk_part (l := rest.map (·.1)) (d := y1) (List.mem_map.2 ⟨_, hy, rfl⟩)
              omega
        by_cases hil : i < len
        · have he := hel i hil
          have hget : elems[i]? = some elems[i] := List.getElem?_eq_getElem (by omega)
          exact key elems[i] (.inl (List.getElem_mem _)) (he.trans hget)
        · have he := hrest (i - len) (by omega)
          rw [show len + (i - len) = i by omega] at he
          have hget : rest[i - len]? = some rest[i - len] := List.getElem?_eq_getElem (by omega)
          exact key rest[i - len] (.inr (List.getElem_mem _)) (he.trans hget)
    · rename_i fs ht
      obtain ⟨xs, n, hf, hx, hl, hlen, hfs⟩ := DataW.trod_struct ht h
      simp only [Nat.add_right_cancel_iff] at hf
      subst hf
      intro i g hg
      have h1 := hfs i g hg
      have hi : i < fs.size := (Array.getElem?_eq_some_iff.1 hg).1
      have hget : xs[i]? = some xs[i] := List.getElem?_eq_getElem (by omega)
      refine ih g.type _ xs[i].1 xs[i].2 (h1.trans hget) ?_
      simp only [Prod.mk.injEq] at hx
      rw [hx.1] at hw
      simp only [Rows.uptoBulk] at hw
      have := bulk_part (l := xs.map (·.1)) (d := xs[i].1) (List.mem_map.2 ⟨_, List.getElem_mem _, rfl⟩)
      omega
    · rename_i n e ht
      obtain ⟨xs, m, hf, hx, hl, hlen, hfs⟩ := DataW.trod_array ht h
      simp only [Nat.add_right_cancel_iff] at hf
      subst hf
      intro i hi
      have h1 := hfs i hi
      have hget : xs[i]? = some xs[i] := List.getElem?_eq_getElem (by omega)
      refine ih e _ xs[i].1 xs[i].2 (h1.trans hget) ?_
      simp only [Prod.mk.injEq] at hx
      rw [hx.1] at hw
      simp only [Rows.uptoBulk] at hw
      have := bulk_part (l := xs.map (·.1)) (d := xs[i].1) (List.mem_map.2 ⟨_, List.getElem_mem _, rfl⟩)
      omega
    · trivial
end

def ArgUp (P : Program) (W : World) (B : Nat) (t : TypeId) (v : Value) : Prop := ∃ fuel, ShapedUp P W B fuel t v.cells.toList

theorem law_lifted_upto {C : Checked} {os : Os} {f : FuncId} {fn : Func} {s : ChangeSpec} {H : Type} {enc : TypeId × Value → H} (F : Stop.Interp)
    (own : ownKnob C.prog.godebug = none) (laid : laidOutB C.prog = true) (started : os.Started) (noInit : C.prog.inits.idxOf? f = none) (hfn : C.prog.funcs[f]? = some fn)
    (hts : fn.params.toList.all (fun t => C.prog.readableRec t && decide (t < C.prog.types.size)) = true)
    {tb : TypeId} (hbool : C.prog.underlying tb = some .bool) (hres : fn.resultTypes = #[tb]) (hvars : s.vars = [])
    (hspec : ∀ ds : List (DataW H), ds.length = fn.params.size → s.fn H ds = { results := [.lit (.bool true)], args := ds })
    (wit : ∃ (w : World) (tape : Tape) (i : Input), w.os = os ∧ (w.forCall tape i).Shaped C.prog ∧ i.vars = [] ∧ Input.okWide C.prog (w.forCall tape i) .any w.heap.size f i ∧
      (Rows.OpenSpec.upto s).pre6 enc C.prog fn [] false (w.forCall tape i).memory i.args ∧ ({} : Assume).holds C.prog (lone (Frame.enter C.prog f i.args .normal) [] (w.forCall tape i)))
    (walk : ∀ (W : World) (args : Array Value), args.size = fn.params.size →
      (∀ (j : Nat) (t : TypeId) (v : Value), fn.params[j]? = some t → args[j]? = some v → ArgShaped C.prog W t v) →
      (∀ (j : Nat) (t : TypeId) (v : Value), fn.params[j]? = some t → args[j]? = some v → ArgUp C.prog W 1048576 t v) →
      Calls C.prog f args W fun e w' => e = .returned (.bool true) ∧ Below W.heap.size W w') :
    ReturnsInHanded {} C os f .any ((Rows.OpenSpec.upto s).pre6 enc C.prog fn [] false) (((Rows.OpenSpec.upto s).at F).post enc C.prog fn false true false false) := by
  refine returnsInHanded_of_cond_sized (s := Rows.OpenSpec.upto s) (k := Rows.uptoSmall) rfl own started noInit hfn wit ?_
  intro W base args ds gs before hval hW hcnd hk hsz _
  suffices hsuf : Calls C.prog f args W fun e W' => ∃ v, e = .returned v ∧ s.post enc C.prog fn false true false false W args v W' from hsuf
  have hW' : DataW.Whole enc C.prog fn.params.toList s.vars false W args.toList ds gs before := hW
  obtain ⟨p, q, hA, hV, rfl, hfz, hnd⟩ := hW
  rw [show (Rows.OpenSpec.upto s).vars = [] from hvars] at hV
  obtain ⟨rfl, rfl⟩ := trodVars_none hV
  obtain ⟨hl1, hl2, hget⟩ := trodAll_get hA
  have hsize : args.size = fn.params.size := by simpa using hl1
  have hdl : ds.length = fn.params.size := by simpa using hl2
  have hbulk : Rows.uptoBulkAll (ds ++ ([] : List (DataW H))) ≤ 1048576 := of_decide_eq_true hk
  rw [List.append_nil] at hbulk
  refine (walk W args hsize ?_ ?_).mono fun e W' ⟨he, bel⟩ => ?_
  · intro j t v ht hv
    have ht' : fn.params.toList[j]? = some t := by simpa using ht
    obtain ⟨d, p', hd, htr⟩ := hget j t v ht' (by simpa using hv)
    refine argShaped_of (hval j t v ht hv) htr fun n hn => ?_
    have h2 := List.all_eq_true.1 hsz n (DataW.weights_mem_each (j := j) (t := t) (d := d) ?_ ?_ n hn)
    · simpa using h2
    · rw [List.getElem?_append_left (List.getElem?_eq_some_iff.1 ht').1]; exact ht'
    · rw [List.getElem?_append_left (List.getElem?_eq_some_iff.1 hd).1]; exact hd
  · intro j t v ht hv
    have ht' : fn.params.toList[j]? = some t := by simpa using ht
    obtain ⟨d, p', hd, htr⟩ := hget j t v ht' (by simpa using hv)
    obtain ⟨fuel, hf⟩ := htr
    have := bulk_part (List.mem_of_getElem? hd)
    exact ⟨fuel, shapedUp_of_trod 1048576 fuel t _ d p' hf (by omega)⟩
  · subst he
    have hsp := hspec ds hdl
    have hnil : ds ++ ([] : List (DataW H)) = ds := List.append_nil _
    refine ⟨_, rfl, ds, [], p ++ [], [], p, [], hW', ?_, ?_, ?_, bel.frame _, fun h => by cases h⟩
    · rw [hnil, hsp, hres]
      exact trodAll_mk1 (shut_bool hbool _)
    · rw [hnil, hsp]
      exact trodAll_stays laid bel hts hA
    · rw [hvars, hnil, hsp]
      rfl

section
variable {P : Program} {W : World} {t : TypeId} {v : Value} {B : Nat}
theorem up_slice {e : TypeId} {f : Nat} {cs : List Value} (ht : P.underlying t = some (.slice e)) (h : ShapedUp P W B f t cs) : ∃ a len cap, cs = [.slice a len cap] ∧ len ≤ cap ∧ cap ≤ B := by
  cases f with
  | zero => exact h.elim
  | succ f =>
    unfold ShapedUp at h; rw [ht] at h
    obtain ⟨a, len, cap, h1, h2, h3, h4⟩ := h
    exact ⟨a, len, cap, h1, h2, h3⟩
theorem up_struct {fs : Array Field} {f : Nat} {cs : List Value} (ht : P.underlying t = some (.struct fs)) (h : ShapedUp P W B f t cs) :
    ∃ g, ∀ (i : Nat) (x : Field), fs[i]? = some x → ShapedUp P W B g x.type ((cs.drop x.offset).take (P.cellsOf x.type)) := by
  cases f with
  | zero => exact h.elim
  | succ f => unfold ShapedUp at h; rw [ht] at h; exact ⟨f, h⟩
end
end Go.Proofs.Ytnjhnkbjbkbnoaa
