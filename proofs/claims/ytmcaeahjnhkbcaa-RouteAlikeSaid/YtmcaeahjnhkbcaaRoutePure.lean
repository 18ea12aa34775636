/- Who reaches whom; where a port leads: plain facts. Conditions: none. -/
import Derived.Test.YtmcaeahjnhkbcaaLib0
namespace Go.Proofs.Ytmcaeahjnhkbcaa
set_option linter.unusedVariables false
set_option linter.unusedSimpArgs false
/-- A channel: its kind, from, to, size, depth. -/
abbrev Ch := Int × Int × Int × Int × Int
def okN (n : Nat) (x : Int) : Bool := decide (0 ≤ x ∧ x < n)
/-- One channel looked at: who sends reaches what the receiver reaches. -/
def reachC (n : Nat) (S : List Int) (c : Ch) : List Int := if c.2.2.1 ∈ S ∧ okN n c.2.1 = true ∧ c.2.1 ∉ S then S ++ [c.2.1] else S
def reachR (n : Nat) (cs : List Ch) (S : List Int) : List Int := cs.foldl (reachC n) S
def reachK (n : Nat) (cs : List Ch) (S : List Int) : Nat → List Int
  | 0 => S
  | k + 1 => reachR n cs (reachK n cs S k)
def reachSet (n : Nat) (cs : List Ch) (part : Int) : List Int := reachK n cs [part] n
/-- Who may reach one, in order. -/
def reachS (n : Nat) (cs : List Ch) (part : Int) : List Int := if okN n part = true then ((List.range n).map fun i : Nat => (i : Int)).filter fun x => decide (x ∈ reachSet n cs part) else []

theorem okN_iff {n : Nat} {x : Int} : okN n x = true ↔ 0 ≤ x ∧ x < n := by unfold okN; simp
structure Good (n : Nat) (S : List Int) : Prop where
  nodup : S.Nodup
  ok : ∀ x ∈ S, okN n x = true
theorem reachC_good {n : Nat} {S : List Int} {c : Ch} (h : Good n S) : Good n (reachC n S c) := by
  unfold reachC
  split
  · rename_i hc
    obtain ⟨h1, h2, h3⟩ := hc
    refine ⟨?_, ?_⟩
    · rw [List.nodup_append]
      refine ⟨h.nodup, by simp, ?_⟩
      intro a ha b hb
      simp at hb
      subst hb
      intro e; subst e; exact h3 ha
    · intro x hx
      rcases List.mem_append.1 hx with hx | hx
      · exact h.ok x hx
      · simp at hx; subst hx; exact h2
  · exact h
theorem reachC_pre {n : Nat} {S : List Int} {c : Ch} : S <+: reachC n S c := by
  unfold reachC
  split
  · exact ⟨_, rfl⟩
  · exact List.prefix_refl _
theorem reachR_good {n : Nat} {cs : List Ch} {S : List Int} (h : Good n S) : Good n (reachR n cs S) := by
  unfold reachR
  induction cs generalizing S with
  | nil => exact h
  | cons c r ih => exact ih (reachC_good h)
theorem reachR_pre {n : Nat} {cs : List Ch} {S : List Int} : S <+: reachR n cs S := by
  unfold reachR
  induction cs generalizing S with
  | nil => exact List.prefix_refl _
  | cons c r ih => exact (reachC_pre (c := c)).trans ih
theorem reachK_good {n : Nat} {cs : List Ch} {S : List Int} (h : Good n S) (k : Nat) : Good n (reachK n cs S k) := by
  induction k with
  | zero => exact h
  | succ k ih => exact reachR_good ih
theorem reachK_pre {n : Nat} {cs : List Ch} {S : List Int} (k : Nat) : S <+: reachK n cs S k := by
  induction k with
  | zero => exact List.prefix_refl _
  | succ k ih => exact ih.trans reachR_pre
theorem reachR_take {n : Nat} {cs : List Ch} {S : List Int} {i : Nat} {c : Ch} (h : cs[i]? = some c) : reachR n (cs.take (i + 1)) S = reachC n (reachR n (cs.take i) S) c := by
  unfold reachR
  rw [List.take_add_one, h, List.foldl_append]; rfl
/-- Nobody else can be added. -/
def Shut (n : Nat) (cs : List Ch) (S : List Int) : Prop := ∀ c ∈ cs, c.2.2.1 ∈ S → okN n c.2.1 = true → c.2.1 ∈ S
theorem shut_of_same {n : Nat} {cs : List Ch} {S : List Int} (h : reachR n cs S = S) : Shut n cs S := by
  intro c hc h1 h2
  obtain ⟨a, b, rfl⟩ := List.append_of_mem hc
  have hm : S <+: (a.foldl (reachC n) S) := reachR_pre
  have hall : reachC n (a.foldl (reachC n) S) c <+: S := by
    have e : reachR n (a ++ c :: b) S = reachR n b (reachC n (a.foldl (reachC n) S) c) := by unfold reachR; rw [List.foldl_append]; rfl
    have := reachR_pre (n := n) (cs := b) (S := reachC n (a.foldl (reachC n) S) c)
    rw [← e, h] at this
    exact this
  have e2 : a.foldl (reachC n) S = S := by
    have h3 := (reachC_pre (n := n) (S := a.foldl (reachC n) S) (c := c)).trans hall
    exact (hm.eq_of_length (Nat.le_antisymm hm.length_le h3.length_le)).symm
  rw [e2] at hall
  apply Classical.byContradiction
  intro hn
  have : reachC n S c = S ++ [c.2.1] := by unfold reachC; rw [if_pos ⟨h1, h2, hn⟩]
  rw [this] at hall
  have := hall.length_le
  simp at this
  omega
theorem same_of_shut {n : Nat} {cs : List Ch} {S : List Int} (h : Shut n cs S) : reachR n cs S = S := by
  unfold reachR
  induction cs with
  | nil => rfl
  | cons c r ih =>
    have e : reachC n S c = S := by
      unfold reachC
      rw [if_neg]
      rintro ⟨h1, h2, h3⟩
      exact h3 (h c (by simp) h1 h2)
    rw [List.foldl_cons, e]
    exact ih (fun d hd => h d (by simp [hd]))
theorem nodup_len {α : Type} : ∀ {S T : List α}, S.Nodup → S ⊆ T → S.length ≤ T.length
  | [], _, _, _ => Nat.zero_le _
  | x :: S, T, hn, hs => by
    obtain ⟨a, b, rfl⟩ := List.append_of_mem (hs (by simp : x ∈ x :: S))
    rw [List.nodup_cons] at hn
    have := nodup_len (S := S) (T := a ++ b) hn.2 (fun y hy => by
      have h1 := hs (List.mem_cons_of_mem _ hy)
      simp only [List.mem_append, List.mem_cons] at h1 ⊢
      rcases h1 with h1 | rfl | h1
      · exact .inl h1
      · exact absurd hy hn.1
      · exact .inr h1)
    simp only [List.length_append, List.length_cons] at this ⊢
    omega
theorem good_len {n : Nat} {S : List Int} (h : Good n S) : S.length ≤ n := by
  have hsub : S ⊆ (List.range n).map fun i : Nat => (i : Int) := by
    intro x hx
    have := okN_iff.1 (h.ok x hx)
    rw [List.mem_map]
    exact ⟨x.toNat, by rw [List.mem_range]; omega, by omega⟩
  have := nodup_len h.nodup hsub
  simpa using this
theorem shut_or_grows {n : Nat} {cs : List Ch} {S : List Int} (k : Nat) : Shut n cs (reachK n cs S k) ∨ S.length + k ≤ (reachK n cs S k).length := by
  induction k with
  | zero => right; exact Nat.le_refl _
  | succ k ih =>
    rcases ih with ih | ih
    · left
      show Shut n cs (reachR n cs (reachK n cs S k))
      rw [same_of_shut ih]; exact ih
    · by_cases e : reachR n cs (reachK n cs S k) = reachK n cs S k
      · left
        show Shut n cs (reachR n cs (reachK n cs S k))
        rw [e]; exact shut_of_same e
      · right
        show _ ≤ (reachR n cs (reachK n cs S k)).length
        have hp := reachR_pre (n := n) (cs := cs) (S := reachK n cs S k)
        have hl := hp.length_le
        have hne : (reachK n cs S k).length ≠ (reachR n cs (reachK n cs S k)).length := fun he => e (hp.eq_of_length he).symm
        omega
theorem one_good {n : Nat} {part : Int} (h : okN n part = true) : Good n [part] := ⟨by simp, by intro x hx; simp at hx; subst hx; exact h⟩
theorem reachSet_shut {n : Nat} {cs : List Ch} {part : Int} (h : okN n part = true) : Shut n cs (reachSet n cs part) := by
  rcases shut_or_grows (n := n) (cs := cs) (S := [part]) n with h1 | h1
  · exact h1
  · have := good_len (reachK_good (cs := cs) (one_good h) n)
    simp at h1; omega
theorem reachSet_self {n : Nat} {cs : List Ch} {part : Int} : part ∈ reachSet n cs part := (reachK_pre (n := n) (cs := cs) (S := [part]) n).subset (by simp)
theorem reachR_sub {n : Nat} {cs : List Ch} {S T : List Int} (hT : Shut n cs T) (h : S ⊆ T) : reachR n cs S ⊆ T := by
  unfold reachR
  induction cs generalizing S with
  | nil => exact h
  | cons c r ih =>
    refine ih (fun d hd => hT d (by simp [hd])) ?_
    unfold reachC
    split
    · rename_i hc
      intro x hx
      rcases List.mem_append.1 hx with hx | hx
      · exact h hx
      · simp at hx; subst hx; exact hT c (by simp) (h hc.1) hc.2.1
    · exact h
theorem reachK_sub {n : Nat} {cs : List Ch} {S T : List Int} (hT : Shut n cs T) (h : S ⊆ T) (k : Nat) : reachK n cs S k ⊆ T := by
  induction k with
  | zero => exact h
  | succ k ih => exact reachR_sub hT ih
theorem reachSet_sub {n : Nat} {cs : List Ch} {part : Int} {T : List Int} (hT : Shut n cs T) (h : part ∈ T) : reachSet n cs part ⊆ T := reachK_sub hT (by simpa using h) n
theorem reachS_mem {n : Nat} {cs : List Ch} {part x : Int} : x ∈ reachS n cs part ↔ okN n part = true ∧ x ∈ reachSet n cs part := by
  unfold reachS
  split
  · rename_i h
    simp only [List.mem_filter, decide_eq_true_eq, h, true_and, and_iff_right_iff_imp]
    intro hx
    have := okN_iff.1 ((reachK_good (cs := cs) (one_good h) n).ok x hx)
    rw [List.mem_map]
    exact ⟨x.toNat, by rw [List.mem_range]; omega, by omega⟩
  · rename_i h
    simp [h]
theorem reachS_ok {n : Nat} {cs : List Ch} {part x : Int} (h : x ∈ reachS n cs part) : okN n x = true := by
  have h' := reachS_mem.1 h
  exact (reachK_good (cs := cs) (one_good h'.1) n).ok x h'.2
theorem reachS_rises {n : Nat} {cs : List Ch} {part : Int} : (reachS n cs part).Pairwise (· < ·) := by
  unfold reachS
  split
  · refine List.Pairwise.filter _ ?_
    rw [List.pairwise_map]
    exact List.pairwise_lt_range.imp (by intro a b h; omega)
  · exact List.Pairwise.nil
/-- Who reaches one that reaches another one reaches that. -/
theorem reachS_trans {n : Nat} {cs : List Ch} {part x y : Int} (hx : x ∈ reachS n cs part) (hy : y ∈ reachS n cs x) : y ∈ reachS n cs part := by
  have h := reachS_mem.1 hx
  exact reachS_mem.2 ⟨h.1, reachSet_sub (reachSet_shut h.1) h.2 (reachS_mem.1 hy).2⟩
theorem reachS_self {n : Nat} {cs : List Ch} {part : Int} (h : okN n part = true) : part ∈ reachS n cs part := reachS_mem.2 ⟨h, reachSet_self⟩
theorem reachS_more {n : Nat} {cs : List Ch} {c : Ch} {part x : Int} (hx : x ∈ reachS n cs part) : x ∈ reachS n (cs ++ [c]) part := by
  have h := reachS_mem.1 hx
  refine reachS_mem.2 ⟨h.1, reachSet_sub ?_ reachSet_self h.2⟩
  intro d hd
  exact reachSet_shut h.1 d (by simp [hd])
theorem reachS_len {n : Nat} {cs : List Ch} {c : Ch} {part : Int} : (reachS n cs part).length ≤ (reachS n (cs ++ [c]) part).length := by
  have hn : (reachS n cs part).Nodup := reachS_rises.imp (by intro a b h; omega)
  exact nodup_len hn fun x hx => reachS_more hx
/-- The channels on which one sends; those on which one receives. -/
def outsS (cs : List Ch) (part : Int) : List Ch := cs.filter fun c => decide (c.2.1 = part)
def insS (cs : List Ch) (part : Int) : List Ch := cs.filter fun c => decide (c.2.2.1 = part)
theorem filter_at {α : Type} {l : List α} {i : Nat} {x : α} (h : l[i]? = some x) (q : α → Bool) (hq : q x = true) : (l.filter q)[((l.take i).filter q).length]? = some x := by
  have e : l = l.take i ++ x :: l.drop (i + 1) := by
    have hlt := (List.getElem?_eq_some_iff.1 h)
    obtain ⟨hl, hx⟩ := hlt
    rw [← hx]
    simp
  conv => lhs; arg 1; rw [e]
  rw [List.filter_append, List.filter_cons, if_pos hq]
  simp
theorem filter_lt {α : Type} {l : List α} {i : Nat} {x : α} (h : l[i]? = some x) (q : α → Bool) (hq : q x = true) : ((l.take i).filter q).length < (l.filter q).length :=
  (List.getElem?_eq_some_iff.1 (filter_at h q hq)).1
/-- Each one stands somewhere. -/
theorem filter_from {α : Type} {l : List α} {q : α → Bool} {n : Nat} (h : n < (l.filter q).length) : ∃ i x, l[i]? = some x ∧ q x = true ∧ ((l.take i).filter q).length = n := by
  induction l generalizing n with
  | nil => simp at h
  | cons y r ih =>
    by_cases hy : q y = true
    · cases n with
      | zero => exact ⟨0, y, rfl, hy, rfl⟩
      | succ n =>
        rw [List.filter_cons, if_pos hy, List.length_cons] at h
        obtain ⟨i, x, h1, h2, h3⟩ := ih (n := n) (by omega)
        exact ⟨i + 1, x, by simpa using h1, h2, by simp [hy, h3]⟩
    · rw [List.filter_cons, if_neg hy] at h
      obtain ⟨i, x, h1, h2, h3⟩ := ih h
      exact ⟨i + 1, x, by simpa using h1, h2, by simp [hy, h3]⟩
theorem filter_take_lt {α : Type} {l : List α} {q : α → Bool} {i j : Nat} {x : α} (hx : l[i]? = some x) (hq : q x = true) (hij : i < j) : ((l.take i).filter q).length < ((l.take j).filter q).length := by
  have h : (l.take j)[i]? = some x := by rw [List.getElem?_take, if_pos hij]; exact hx
  have := filter_lt h q hq
  rwa [List.take_take, Nat.min_eq_left (by omega)] at this
/-- Where a port leads. -/
def toP (cs : List Ch) (part port : Int) (i : Nat) (c : Ch) : Prop := cs[i]? = some c ∧ c.2.1 = part ∧ ((outsS (cs.take i) part).length : Int) = port
theorem to_cases (cs : List Ch) (part port : Int) : (∃ i c, toP cs part port i c) ∨ ¬ (0 ≤ port ∧ port < (outsS cs part).length) := by
  by_cases h : 0 ≤ port ∧ port < (outsS cs part).length
  · left
    obtain ⟨n, rfl⟩ : ∃ n : Nat, port = n := ⟨port.toNat, by omega⟩
    obtain ⟨i, x, h1, h2, h3⟩ := filter_from (l := cs) (q := fun c => decide (c.2.1 = part)) (n := n) (by have := h.2; unfold outsS at this; omega)
    exact ⟨i, x, h1, by simpa using h2, by unfold outsS; omega⟩
  · exact .inr h
theorem toP_in {cs : List Ch} {part port : Int} {i : Nat} {c : Ch} (h : toP cs part port i c) : 0 ≤ port ∧ port < (outsS cs part).length := by
  obtain ⟨h1, h2, h3⟩ := h
  have := filter_lt h1 (fun c => decide (c.2.1 = part)) (by simpa using h2)
  unfold outsS at h3 ⊢
  omega
theorem toP_out {cs : List Ch} {part port : Int} {i : Nat} {c : Ch} (h : toP cs part port i c) : (outsS cs part)[port.toNat]? = some c := by
  obtain ⟨h1, h2, h3⟩ := h
  have := filter_at h1 (fun c => decide (c.2.1 = part)) (by simpa using h2)
  unfold outsS at h3 ⊢
  rw [show port.toNat = ((cs.take i).filter fun c => decide (c.2.1 = part)).length by omega]
  exact this
theorem in_at {cs : List Ch} {i : Nat} {c : Ch} (h : cs[i]? = some c) : (insS cs c.2.2.1)[(insS (cs.take i) c.2.2.1).length]? = some c :=
  filter_at h (fun d => decide (d.2.2.1 = c.2.2.1)) (by simp)
theorem to_apart {cs : List Ch} {a i b k : Int} {x y : Nat} {c d : Ch} (hc : toP cs a i x c) (hd : toP cs b k y d) (h1 : c.2.2.1 = d.2.2.1) (h2 : (insS (cs.take x) c.2.2.1).length = (insS (cs.take y) d.2.2.1).length) : a = b ∧ i = k := by
  obtain ⟨c1, c2, c3⟩ := hc
  obtain ⟨d1, d2, d3⟩ := hd
  have hxy : x = y := by
    rcases Nat.lt_trichotomy x y with h | h | h
    · have := filter_take_lt (q := fun e => decide (e.2.2.1 = c.2.2.1)) c1 (by simp) h
      rw [← h1] at h2
      unfold insS at h2
      omega
    · exact h
    · have := filter_take_lt (q := fun e => decide (e.2.2.1 = d.2.2.1)) d1 (by simp) h
      rw [h1] at h2
      unfold insS at h2
      omega
  subst hxy
  rw [c1] at d1
  cases d1
  subst c2 d2
  exact ⟨rfl, by omega⟩
/-- What all partitions' ports are together. -/
theorem sum_parts (cs : List Ch) (f : Ch → Int) (n : Nat) : (((List.range n).map fun i : Nat => (cs.filter fun c => decide (f c = (i : Int))).length)).sum = (cs.filter fun c => okN n (f c)).length := by
  induction n with
  | zero =>
    simp only [List.range_zero, List.map_nil, List.sum_nil]
    symm
    rw [List.length_eq_zero_iff, List.filter_eq_nil_iff]
    intro c _
    unfold okN
    simp
  | succ n ih =>
    rw [List.range_succ, List.map_append, List.sum_append, ih]
    simp only [List.map_cons, List.map_nil, List.sum_cons, List.sum_nil, Nat.add_zero]
    clear ih
    induction cs with
    | nil => rfl
    | cons c r ih =>
      simp only [List.filter_cons]
      have h1 : okN (n + 1) (f c) = (okN n (f c) || decide (f c = (n : Int))) := by
        rw [Bool.eq_iff_iff]
        simp only [okN, Bool.or_eq_true, decide_eq_true_eq]
        omega
      by_cases ha : okN n (f c) = true
      · have hb : ¬ f c = (n : Int) := by have := okN_iff.1 ha; omega
        rw [h1, ha]
        simp only [hb, decide_false, Bool.true_or, if_true, Bool.false_eq_true, if_false, List.length_cons]
        omega
      · by_cases hb : f c = (n : Int)
        · have ha' : okN n (n : Int) = false := by rw [← hb]; simpa using ha
          rw [h1, hb]
          simp only [ha', decide_true, Bool.or_true, if_true, Bool.false_eq_true, if_false, List.length_cons]
          omega
        · rw [h1]
          simp only [Bool.not_eq_true] at ha
          simp only [ha, hb, decide_false, Bool.or_false, Bool.false_eq_true, if_false]
          exact ih
end Go.Proofs.Ytmcaeahjnhkbcaa
