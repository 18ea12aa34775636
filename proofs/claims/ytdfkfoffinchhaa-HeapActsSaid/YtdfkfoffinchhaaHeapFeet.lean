/- What a loop's body over an iterator may write: one box, and the own row of the slice that lies in it. Conditions: none. -/
import Derived.Test.YtdfkfoffinchhaaHeapDrop
import Derived.Test.YtdfkfoffinchhaaLib9
import Derived.RangeFuncOwn
namespace Go.Proofs.Ytdfkfoffinchhaa
open Go Go.RowKit Go.Tm
set_option linter.unusedVariables false

def Feet (B b : Nat) (X : World) : Prop := b = B ∨ ∃ v, X.cell? ⟨B, 0, none⟩ = some v ∧ v.ownBlock = some b
/-- Below B all is as it was; so is each block of cells but B and the row of the slice in B. -/
def FootK (B : Nat) (X Y : World) : Prop := Below B X Y ∧ B < X.heap.size ∧ (∀ b o, X.heap[b]? = some o → o.isCells = true → ¬ Feet B b X → Y.heap[b]? = some o ∧ ¬ Feet B b Y) ∧ ((∀ b, Feet B b X → b < X.heap.size) → ∀ b, Feet B b Y → b < Y.heap.size)
theorem FootK.trans {B : Nat} {X Y Z : World} (h : FootK B X Y) (k : FootK B Y Z) : FootK B X Z :=
  ⟨h.1.trans k.1, h.2.1, fun b o h1 h2 h3 => by
    obtain ⟨h4, h5⟩ := h.2.2.1 b o h1 h2 h3
    exact k.2.2.1 b o h4 h2 h5, fun h1 => k.2.2.2 (h.2.2.2 h1)⟩
theorem Feet.same {B b : Nat} {X Y : World} (h : Y.heap[B]? = X.heap[B]?) (k : Feet B b Y) : Feet B b X := by
  rcases k with rfl | ⟨v, hv, ho⟩
  · exact .inl rfl
  · exact .inr ⟨v, by rw [← hv]; exact (World.cell?_of_block h).symm, ho⟩
theorem FootK.of {B : Nat} {X Y : World} (h : Below X.heap.size X Y) (hB : B < X.heap.size) : FootK B X Y :=
  ⟨h.mono (Nat.le_of_lt hB), hB, fun b o h1 h2 h3 => ⟨(h.block b (Array.getElem?_eq_some_iff.1 h1).1).trans h1, fun k => h3 (k.same (h.block B hB))⟩, fun h1 b k => Nat.lt_of_lt_of_le (h1 b (k.same (h.block B hB))) h.size⟩
theorem FootK.refl {B : Nat} {X : World} (hB : B < X.heap.size) : FootK B X X := .of (Below.refl _ _) hB
theorem FootK.size {B : Nat} {X Y : World} (h : FootK B X Y) : X.heap.size ≤ Y.heap.size := by
  exact h.1.size
theorem FootK.putObj {B : Nat} {n : Nat} (hB : B < n) (W : World) (l : Nat) (o o' : Obj) (hl : n ≤ l) (h : W.heap[l]? = some o) (hc : o.isCells = false) (_ : o.isWalk = false) : FootK B W (W.putObj l o') := by
  have hlt := (Array.getElem?_eq_some_iff.1 h).1
  have hne : ∀ b, b ≠ l → (W.putObj l o').heap[b]? = W.heap[b]? := fun b hb => World.putObj_heap_other (by first | exact hb | exact Ne.symm hb | omega)
  refine ⟨(Below.refl B W).grown (grownBy_putObj' W l o') (by omega) (fun k e => by cases e; omega), by omega, fun b ob h1 h2 h3 => ?_, fun h1 b k => Nat.lt_of_lt_of_le (h1 b (k.same (hne B (by omega)))) (grownBy_putObj' W l o').size⟩
  have hbl : b ≠ l := by
    rintro rfl
    rw [h] at h1
    cases h1
    rw [hc] at h2
    cases h2
  exact ⟨(hne b hbl).trans h1, fun k => h3 (k.same (hne B (by omega)))⟩
theorem FootK.box {B b : Nat} {X Y : World} {cs : Array Value} {t : TypeId} (h : FootK B X Y) (hb : Box X b cs t) (hn : ¬ Feet B b X) : Box Y b cs t := (h.2.2.1 b _ hb rfl hn).1
theorem Feet.lt {B b : Nat} {X : World} {cs : Array Value} {t : TypeId} (hb : Box X B cs t) {v : Value} (hv : cs[0]? = some v) (ho : v.ownBlock = none) (h : Feet B b X) : b = B := by
  rcases h with rfl | ⟨u, hu, ho'⟩
  · rfl
  · have := hb.rules.1 0
    rw [hu, hv] at this
    cases this
    rw [ho] at ho'
    cases ho'
/-- A write into the box of a value that owns nothing. -/
theorem FootK.set {B : Nat} {X : World} {cs : Array Value} {t : TypeId} (hb : Box X B cs t) (h0 : 0 < cs.size) (v : Value) (ho : v.ownBlock = none) : FootK B X (X.setCell ⟨B, 0, none⟩ v) := by
  refine ⟨(Below.refl B X).setCell (p := ⟨B, 0, none⟩) (Nat.le_refl _) _, hb.lt, fun b o h1 h2 h3 => ?_, fun _ b k => ?_⟩
  · have hbB : ¬ b = B := fun e => h3 (.inl e)
    refine ⟨(heap_setCell_other _ _ _ _ (by exact hbB)).trans h1, fun k => h3 (.inl ?_)⟩
    have hs := hb.set 0 v
    refine Feet.lt hs (v := v) ?_ ho k
    simp [h0]
  · have hs := hb.set 0 v
    have := Feet.lt hs (v := v) (by simp [h0]) ho k
    subst this
    exact hs.lt
/-- The box holds a slice; its row grows, or a new one is made. -/
theorem FootK.appended {B : Nat} {X X1 Y : World} {v v' : Value} {t : TypeId} (hb : Box X B #[v] t) (hX : Below X.heap.size X X1) (hg : X1.grownBy Y v.ownBlock) (hv : Box Y B #[v] t) (hat : v'.ownBlock = v.ownBlock ∨ ∃ g, v'.ownBlock = some g ∧ X.heap.size ≤ g) (hBv : ∀ b, v.ownBlock = some b → B ≤ b) (hvl : ∀ b, v'.ownBlock = some b → b < Y.heap.size) :
    FootK B X (Y.setCell ⟨B, 0, none⟩ v') := by
  have hlt := hb.lt
  have hbelow : Below B X Y := (hX.mono (Nat.le_of_lt hlt)).trans ⟨hg.os, hg.tape, hg.output, hg.size, fun k hk => hg.block k (by have := hX.size; omega) (fun e => by have := hBv k e.symm; omega)⟩
  refine ⟨hbelow.trans ((Below.refl B Y).setCell (p := ⟨B, 0, none⟩) (Nat.le_refl _) _), hlt, fun b o h1 h2 h3 => ?_, fun _ b k => ?_⟩
  rotate_left
  · rw [World.size_setCell]
    rcases k with rfl | ⟨u, hu, ho⟩
    · exact hv.lt
    · have := (hv.set 0 v').rules.1 0
      rw [hu] at this
      obtain rfl : u = v' := by simpa using this
      exact hvl b ho
  have hbB : ¬ b = B := fun e => h3 (.inl e)
  have hbl := (Array.getElem?_eq_some_iff.1 h1).1
  have hbv : ¬ v.ownBlock = some b := fun e => h3 (.inr ⟨v, hb.rules.1 0, e⟩)
  refine ⟨((heap_setCell_other _ _ _ _ (by exact hbB)).trans (hg.block b (by have := hX.size; omega) (fun e => hbv e.symm))).trans ((hX.block b hbl).trans h1), fun k => ?_⟩
  rcases k with rfl | ⟨u, hu, ho⟩
  · exact hbB rfl
  · have := (hv.set 0 v').rules.1 0
    rw [hu] at this
    obtain rfl : u = v' := by simpa using this
    rcases hat with h | ⟨g, h, hge⟩
    · rw [h] at ho; exact hbv ho
    · rw [h] at ho; cases ho; omega

theorem Sl.kept {w X Y : World} {B : Nat} {ag : Bool} {k : Nat} {v : Value} {xs : List Value} (h : Sl w ag k v xs) (hB : w.heap.size ≤ B) (hX : Below w.heap.size w X) (hK : FootK B X Y) : Sl Y ag k v xs := h.below (hX.trans (hK.1.mono hB))
end Go.Proofs.Ytdfkfoffinchhaa
