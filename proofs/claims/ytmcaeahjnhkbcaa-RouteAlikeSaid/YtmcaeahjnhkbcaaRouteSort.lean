/- slices.Sorted(maps.Keys(m)) of the set of whom one has reached. Conditions: its size within the reach. -/
import Derived.Test.YtmcaeahjnhkbcaaRouteMap
import Derived.Shelf.SlIterI.Nil
import Derived.Shelf.SortM.Plain
import Derived.Shelf.SortM.SortNone
import Derived.Ground.GgzProg
import Derived.Ground.SlgmProg
namespace Go.Proofs.Ytmcaeahjnhkbcaa
open Go Go.RowKit Go.Maps Go.Sort Go.Shelf
set_option linter.unusedVariables false
set_option linter.unusedSimpArgs false

shelf_lay_g SlLaysZI.n7 Ggz 7 at Try 18 as Lx.keysA
shelf_lay_g SlLaysZI.n6 Ggz 6 at Try 17 as Lx.sortedA
shelf_lay_g SlLaysM.n5 Slgm 5 at Try 25 as Lx.sortA

theorem sortsA (m : Nat) : AnyZI.SortsIn Try.prog Lx.sortedA_ren Fence.wide m :=
  ⟨fun blk off cap ss W hH hblk hsz => callsIn_wide.2 (AnyM.slices_Sort_int Lx.sortA blk off cap ss W hH hblk hsz),
   fun p cap W => callsIn_wide.2 (AnyM.slices_Sort_int_none Lx.sortA p cap W)⟩

theorem keys_call (mb : Option Nat) (W : World) : Calls Try.prog 18 #[.map mb] W fun e w' => e = .returned (.func (.func 26) #[] #[.pointer (some ⟨W.heap.size, 0, none⟩)]) ∧ w' = W.alloc (.cells #[.map mb] 48) :=
  (callsIn_wide (n := 5)).1 (AnyZI.keys_in Lx.keysA Fence.wide 5 trivial rfl mb W)

set_option maxHeartbeats 1000000 in
theorem sorted_call (bm : Nat) (S : List Int) (W : World) (h : MapS W bm S) (hn : S.Nodup) (hl : S.length * 8 ≤ 140737488355328) :
    Calls Try.prog 17 #[.func (.func 26) #[] #[.pointer (some ⟨W.heap.size, 0, none⟩)]] (W.alloc (.cells #[.map (some bm)] 48))
      fun e w' => ∃ v, e = .returned v ∧ Tm.Owned w' (W.heap.size + 1) 3 false 1 v (Tm.ints (S.mergeSort fun x y => decide (x ≤ y))) ∧ Below (W.heap.size + 1) (W.alloc (.cells #[.map (some bm)] 48)) w' := by
  obtain ⟨D0, hown, hperm, hsize⟩ := h.perm hn
  have hmax : Maps.size D0 ≤ maxLen := by unfold maxLen; omega
  have hbytes : Maps.size D0 * 8 ≤ 140737488355328 := by omega
  have hbl := hown.lt
  refine (callsIn_wide (n := 5)).1 ?_
  have hseq : SeqGives Fence.wide 2 Try.prog 26 #[.pointer (some ⟨W.heap.size, 0, none⟩)] encZ (fun ss => ss.Perm (intKeys D0)) (Maps.size D0) (W.alloc (.cells #[.map (some bm)] 48)) :=
    AnyZI.keys_gives (ρ := Lx.keysA_ren) { Lx.keysA with } Fence.wide _ trivial rfl (by omega) W.heap.size bm S.length D0 _ (by simp) (by simp) (by
      obtain ⟨es, clock, hb, Ft, hs, hD⟩ := hown
      exact ⟨es, clock, (Below.heap_alloc _ _ bm hbl).trans hb, Ft, hs, hD⟩)
  have cS := AnyZI.sorted_in Lx.sortedA Fence.wide 5 trivial trivial trivial trivial rfl (by omega) (sortsA _) (enters_of Try.func25 (by kernel_rfl) rfl) 26 #[.pointer (some ⟨W.heap.size, 0, none⟩)] trivial (enters_of Try.func26 (by kernel_rfl) rfl) _ _ hmax hbytes _ hseq
  change CallsIn _ _ Try.prog 17 _ _ _ at cS
  refine cS.mono ?_
  rintro e w' ⟨v, ss, rfl, hS, hrow, _, hb⟩
  have hE : (ss.mergeSort fun x y => decide (x ≤ y)) = S.mergeSort fun x y => decide (x ≤ y) := mergeSort_of_perm_i (hS.trans hperm.symm)
  have hL : ss.length = (S.mergeSort fun x y => decide (x ≤ y)).length := by rw [List.length_mergeSort]; exact (hS.trans hperm.symm).length_eq
  rw [World.size_alloc] at hrow hb
  rw [hE, hL] at hrow
  refine ⟨v, rfl, ⟨?_, Tm.ints_val _⟩, hb⟩
  have hf : ∀ l : List Int, Tm.flat (Tm.ints l) = l.map encZ := fun l => by
    induction l with
    | nil => rfl
    | cons x r ih => rw [Tm.ints, List.map_cons, Tm.flat_cons]; rw [Tm.ints] at ih; rw [ih]; rfl
  rw [hf, Tm.ints_len]
  exact hrow
end Go.Proofs.Ytmcaeahjnhkbcaa
