/- The document's example of package table; plain facts on Put, Find, Remove. Conditions: none. -/
import Derived.Test.YtianochlnbehnaaTabMore
import Derived.Test.YtianochlnbehnaaTabKids
namespace Go.Proofs.Ytianochlnbehnaa
open Go Go.RowKit Go.Tm
set_option linter.unusedVariables false
set_option linter.unusedSimpArgs false

theorem wf_one (n : Int) (h : (Lit.int .i64 n).wf = true) : PrWf (oneP n) := ⟨h, (by decide : (Lit.int .i64 0).wf = true), (by decide : (Lit.int .i64 0).wf = true)⟩
theorem eql_pr_same (x : Prc) (hx : PrWf x) : ∀ w, (Op.equalIn 10000 33 (prV x) (prV x)).run Try.prog w = .ok true w := fun w => by
  have := eql_pr x x hx hx w
  simpa using this

theorem bin_eql (x y : Prc) (hx : PrWf x) (hy : PrWf y) : ∀ w, (binOp .eql 33 (prV x) (prV y)).run Try.prog w = .ok (.bool (decide (x = y))) w := fun w => by
  have := eql_pr x y hx hy w
  simp only [binOp]
  simp [Op.equal, Op.maxDepth, this]
theorem bin_neq (x y : Prc) (hx : PrWf x) (hy : PrWf y) : ∀ w, (binOp .neq 33 (prV x) (prV y)).run Try.prog w = .ok (.bool (!decide (x = y))) w := fun w => by
  have := eql_pr x y hx hy w
  simp only [binOp]
  simp [Op.equal, Op.maxDepth, this]
theorem bin_same (x : Prc) (hx : PrWf x) : ∀ w, (binOp .eql 33 (prV x) (prV x)).run Try.prog w = .ok (.bool true) w := fun w => by
  have := bin_eql x x hx hx w
  simpa using this
theorem putS_len (l : List Prc) (p : Prc) : l.length ≤ (putS l p).length ∧ (putS l p).length ≤ l.length + 1 := by
  unfold putS
  split
  · simp
  · have h := congrArg List.length (List.takeWhile_append_dropWhile (p := fun x : Prc => !decide (p.pid < x.pid)) (l := l))
    simp only [List.length_append, List.length_cons] at h ⊢
    omega
theorem find_map {l : List Prc} {pid : Int} : findS l pid = match l.find? (fun x => decide (x.pid = pid)) with | some x => (x, true) | none => (oneP 0, false) := rfl
theorem find_set {l : List Prc} {i : Nat} {x p : Prc} {pid : Int} (h : l[i]? = some x) (h1 : x.pid ≠ pid) (h2 : p.pid ≠ pid) : (l.set i p).find? (fun x => decide (x.pid = pid)) = l.find? (fun x => decide (x.pid = pid)) := by
  induction l generalizing i with
  | nil => simp at h
  | cons y r ih =>
    cases i with
    | zero =>
      simp at h
      subst h
      simp [h1, h2]
    | succ i =>
      simp only [List.set_cons_succ, List.find?_cons]
      rw [ih (by simpa using h)]
theorem putS_cases (l : List Prc) (p : Prc) : (∃ (i : Nat) (x : Prc), l[i]? = some x ∧ x.pid = p.pid ∧ (∀ j y, j < i → l[j]? = some y → y.pid ≠ p.pid) ∧ putS l p = l.set i p) ∨
    ((∀ x ∈ l, x.pid ≠ p.pid) ∧ ∃ a b, l = a ++ b ∧ putS l p = a ++ p :: b ∧ (∀ x ∈ a, x.pid < p.pid) ∧ ∀ x, b.head? = some x → p.pid < x.pid) := by
  rcases at_cases l p.pid with ⟨_, hno⟩ | ⟨i, x, _, hx, hp, hno⟩
  · right
    refine ⟨hno, _, _, (List.takeWhile_append_dropWhile (p := fun x : Prc => !decide (p.pid < x.pid)) (l := l)).symm, putS_none hno, ?_, ?_⟩
    · intro x hx
      have h1 := List.all_eq_true.1 (List.all_takeWhile (p := fun x : Prc => !decide (p.pid < x.pid)) (l := l)) x hx
      have h2 := hno x (List.takeWhile_sublist _ |>.subset hx)
      simp at h1
      omega
    · intro x hx
      have := List.head?_dropWhile_not (p := fun x : Prc => !decide (p.pid < x.pid)) (l := l)
      rw [hx] at this
      simpa using this
  · left; exact ⟨i, x, hx, hp, hno, putS_some hx hp hno⟩
theorem find_put_same (l : List Prc) (p : Prc) : findS (putS l p) p.pid = (p, true) := by
  rcases putS_cases l p with ⟨i, x, hx, hp, hno, he⟩ | ⟨hno, a, b, hl, he, ha, _⟩
  · rw [he]
    have hi := (List.getElem?_eq_some_iff.1 hx).1
    refine findS_some (i := i) (by rw [List.getElem?_set]; simp [hi]) rfl (fun j y hj hy => ?_)
    rw [List.getElem?_set_ne (by omega)] at hy
    exact hno j y hj hy
  · rw [he]
    refine findS_some (i := a.length) (by simp) rfl (fun j y hj hy => ?_)
    rw [List.getElem?_append_left hj] at hy
    have := ha y (List.mem_of_getElem? hy)
    omega
theorem find_put_other (l : List Prc) (p : Prc) {pid : Int} (h : pid ≠ p.pid) : findS (putS l p) pid = findS l pid := by
  unfold findS
  rcases putS_cases l p with ⟨i, x, hx, hp, hno, he⟩ | ⟨hno, a, b, hl, he, ha, _⟩
  · rw [he, find_set hx (by omega) (by omega)]
  · rw [he, hl, List.find?_append, List.find?_append, List.find?_cons_of_neg (by simp; omega)]
theorem find_remove_same (l : List Prc) (pid : Int) : findS (removeS l pid) pid = (oneP 0, false) := by
  refine findS_none (fun x hx => ?_)
  have := (List.mem_filter.1 hx).2
  simpa using this
theorem find_remove_other (l : List Prc) {pid pid' : Int} (h : pid' ≠ pid) : findS (removeS l pid) pid' = findS l pid' := by
  have e : (removeS l pid).find? (fun x => decide (x.pid = pid')) = l.find? (fun x => decide (x.pid = pid')) := by
    unfold removeS
    induction l with
    | nil => rfl
    | cons y r ih =>
      by_cases hy : y.pid = pid
      · rw [List.filter_cons_of_neg (by simp [hy]), List.find?_cons_of_neg (by simp; omega), ih]
      · rw [List.filter_cons_of_pos (by simp [hy]), List.find?_cons, List.find?_cons, ih]
  unfold findS
  rw [e]
theorem findS_wf {l : List Prc} (hw : ∀ x ∈ l, PrWf x) (pid : Int) : PrWf (findS l pid).1 := by
  unfold findS
  split
  · rename_i x h
    exact hw x (List.mem_of_find?_eq_some h)
  · exact wf_one 0 (by decide)
theorem putS_mem {l : List Prc} {p x : Prc} (h : x ∈ putS l p) : x = p ∨ x ∈ l := by
  rcases putS_cases l p with ⟨i, y, hy, hp, hno, he⟩ | ⟨hno, a, b, hl, he, ha, _⟩
  · rw [he] at h
    rcases List.mem_or_eq_of_mem_set h with h | h
    · exact .inr h
    · exact .inl h
  · rw [he] at h
    rw [hl]
    simp only [List.mem_append, List.mem_cons] at h ⊢
    rcases h with h | h | h
    · exact .inr (.inl h)
    · exact .inl h
    · exact .inr (.inr h)

set_option maxHeartbeats 2000000 in
theorem shown_any (w : World) : Calls Try.prog 11 #[] w fun e w' => e = .returned (.bool true) ∧ Below w.heap.size w w' := by
  have e1 : putS [] (oneP 2) = [oneP 2] := by simp [putS]
  have e2 : putS [oneP 2] (oneP 1) = [oneP 1, oneP 2] := by simp [putS, oneP]
  have e3 : wrap64 (mostS [oneP 1, oneP 2] + 1) = 3 := by rw [show mostS [oneP 1, oneP 2] = 2 by simp [mostS, oneP]; omega]; unfold wrap64; omega
  have hA1 := fun W => put_any (.slice none 0 0) [] (oneP 2) W (Sl.nil _ _ _) (by decide)
  have hA2 := fun v W h => put_any v [oneP 2] (oneP 1) W h (by simp)
  have hN := fun v W h => next_any v [oneP 1, oneP 2] W h
  rw [e1] at hA1
  rw [e2] at hA2
  rw [e3] at hN
  simp only [prV, one_eq] at hA1 hA2
  have HA1 := Lib.hid hA1
  have HA2 := Lib.hid hA2
  have HN := Lib.hid hN
  clear hA1 hA2 hN e1 e2 e3
  go_enter Try.func11, Try.ntmps11
  go_wp2_with fail
  with_reducible refine (HA1.out _).mono ?_
  rintro e w1 ⟨v1, rfl, hs1, hb1⟩
  have hz1 := hb1.size
  have HS1 := Lib.hid hs1
  clear hs1
  go_wp2_with fail
  with_reducible refine (HA2.out _ _ HS1.out).mono ?_
  rintro e w2 ⟨v2, rfl, hs2, hb2⟩
  have hz2 := hb2.size
  have HS2 := Lib.hid hs2
  obtain ⟨a2, c2, hv2, _⟩ := hs2.shape
  replace hv2 : v2 = .slice a2 2 c2 := hv2
  subst hv2
  obtain ⟨b, o, rfl, _, _, f0, _, _⟩ := Sl.pr hs2 (i := 0) (x := oneP 1) rfl
  obtain ⟨_, _, he, _, _, f1, _, _⟩ := Sl.pr hs2 (i := 1) (x := oneP 2) rfl
  simp only [Option.some.injEq, Addr.mk.injEq, and_true] at he
  obtain ⟨rfl, rfl⟩ := he
  replace f0 : w2.cell? ⟨b, o, none⟩ = some (.int .i64 1) := by simpa [oneP] using f0
  replace f1 : w2.cell? ⟨b, o + 26, none⟩ = some (.int .i64 2) := by simpa [oneP] using f1
  clear hs2
  go_wp2_with fail
  with_reducible refine (HN.out _ _ HS2.out).mono ?_
  rintro e w3 ⟨rfl, hb3⟩
  have hz3 := hb3.size
  go_wp2_with fail
  go_ret
  exact ⟨by simp, by (repeat (first | with_reducible assumption | with_reducible exact Below.refl _ _ | with_reducible refine Below.setCell ?_ ?_ _ | with_reducible refine Below.alloc ?_ ?_ _ | with_reducible refine below_drewN' ?_ _ | with_reducible refine Below.drew ?_ | with_reducible refine Below.trans ?_ (Below.mono (by assumption) ?_) | omega | (dsimp only; omega) | (simp only [drew_heap', drewN_heap', World.size_alloc, World.size_setCell]; omega) | (solve | simp) | (solve | (simp; omega))))⟩
end Go.Proofs.Ytianochlnbehnaa
