/- The law TraceTells: its walk. Conditions: what came in is shaped. -/
import Derived.Test.YtnjhnkbjbkbnoaaTraceRef2
namespace Go.Proofs.Ytnjhnkbjbkbnoaa
open Go Go.RowKit Go.Tm
set_option linter.unusedVariables false
set_option linter.unusedSimpArgs false

set_option maxHeartbeats 8000000 in
theorem traceTells_walk (v : Value) (l : List Ev) (pid t n : Int) (w : World) (hv : Sl w true 4 v (evs l)) (hby : l.length * 24 ≤ 140737488355328) (hw : ∀ x ∈ l, EvWf x) :
    Calls Try.prog 8 #[.agg #[v, .int .i64 pid, .int .u64 t, .int .u32 n]] w fun e w' => e = .returned (.bool true) ∧ Below w.heap.size w w' := by
  have HV := Lib.hid hv
  have HW := Lib.hid hw
  have HOF := Lib.hid (fun W h => traceOf_any v l pid W h hby)
  have HOF2 := Lib.hid (fun W h => refOf_any v l pid W h hby)
  have HEV := Lib.hid (fun u u' W h h' => events_true u u' (ofP l pid) W h h' (fun x hx => hw x (List.mem_filter.1 hx).1))
  have HUN := Lib.hid (fun W h => until_any v l t W h)
  have HUN2 := Lib.hid (fun W h => refUntil_any v l t W h hby)
  have HEV2 := Lib.hid (fun u u' W h h' => events_true u u' (l.take (untilN l t)) W h h' (fun x hx => hw x (List.mem_of_mem_take hx)))
  have HRI := Lib.hid (fun W h => rises_any v l W h)
  have HRI2 := Lib.hid (fun W h => refRises_any v l W h)
  have HER := Lib.hid (fun W h => errors_any v l W h hw)
  have HER2 := Lib.hid (fun W h => refErrors_any v l W h hw)
  have HGA := Lib.hid (fun W h => gap_any v l pid W h hby)
  have HGA2 := Lib.hid (fun W h => refGap_any v l pid W h)
  have HCO := Lib.hid (fun W h => count_any v l n W h)
  have HCO2 := Lib.hid (fun W h => refCount_any v l n W h)
  obtain ⟨a, cap, rfl, hl⟩ := hv.shape
  rw [evs_len] at hl HV HOF HOF2 HUN HUN2 HRI HRI2 HER HER2 HGA HGA2 HCO HCO2 ⊢
  generalize gapM (ofP l pid) ((ofP l pid).length - 1) = gg at *
  generalize riseB l = rr at *
  generalize errE l = ee at *
  generalize cntE l n = cc at *
  generalize ofP l pid = k at *
  generalize l.take (untilN l t) = q at *
  have hrr : (rr == rr) = true := by simp
  clear hv hw
  go_enter Try.func8, Try.ntmps8
  ((go_wp2_with fail); (with_reducible refine (shown_any _).mono ?_); (rintro e w1 ⟨rfl, hb1⟩); (have hz1 := hb1.size); (try simp only [World.size_alloc, World.size_setCell] at hz1))
  have hc1 : Below w.heap.size w w1 := by (repeat (first | with_reducible assumption | with_reducible exact Below.refl _ _ | with_reducible refine Below.setCell ?_ ?_ _ | with_reducible refine Below.alloc ?_ ?_ _ | with_reducible refine below_drewN' ?_ _ | with_reducible refine Below.drew ?_ | with_reducible refine Below.trans ?_ (Below.mono (by assumption) ?_) | omega | (dsimp only; omega) | (simp only [drew_heap', drewN_heap', World.size_alloc, World.size_setCell]; omega) | (solve | simp) | (solve | (simp; omega))))
  go_wp2_with fail
  with_reducible refine (HOF.out _ (HV.out.below hc1)).mono ?_
  rintro e w2 ⟨v2, rfl, ho2, hb2⟩
  have hz2 := hb2.size
  have hc2 : Below w.heap.size w w2 := hc1.trans (hb2.mono hc1.size)
  have HS2 := Lib.hid ho2.sl
  clear ho2
  go_wp2_with fail
  with_reducible refine (HOF2.out _ (HV.out.below hc2)).mono ?_
  rintro e w3 ⟨v3, rfl, hs3, hb3⟩
  have hz3 := hb3.size
  have hc3 : Below w.heap.size w w3 := hc2.trans (hb3.mono hc2.size)
  have HS3 := Lib.hid hs3
  clear hs3
  go_wp2_with fail
  with_reducible refine (HEV.out _ _ _ (HS2.out.below hb3) HS3.out).mono ?_
  rintro e w4 ⟨rfl, hb4⟩
  have hz4 := hb4.size
  have hc4 : Below w.heap.size w w4 := hc3.trans (hb4.mono hc3.size)
  clear HS2 HS3
  go_wp2_with fail
  with_reducible refine (HUN.out _ (HV.out.below hc4)).mono ?_
  rintro e w5 ⟨v5, rfl, hs5, hb5⟩
  have hz5 := hb5.size
  have hc5 : Below w.heap.size w w5 := hc4.trans (hb5.mono hc4.size)
  have HS5 := Lib.hid hs5
  clear hs5
  go_wp2_with fail
  with_reducible refine (HUN2.out _ (HV.out.below hc5)).mono ?_
  rintro e w6 ⟨v6, rfl, hs6, hb6⟩
  have hz6 := hb6.size
  have hc6 : Below w.heap.size w w6 := hc5.trans (hb6.mono hc5.size)
  have HS6 := Lib.hid hs6
  clear hs6
  go_wp2_with fail
  with_reducible refine (HEV2.out _ _ _ (HS5.out.below hb6) HS6.out).mono ?_
  rintro e w7 ⟨rfl, hb7⟩
  have hz7 := hb7.size
  have hc7 : Below w.heap.size w w7 := hc6.trans (hb7.mono hc6.size)
  clear HS5 HS6
  go_wp2_with fail
  with_reducible refine (HRI.out _ (HV.out.below hc7)).mono ?_
  rintro e w8 ⟨rfl, hb8⟩
  have hz8 := hb8.size
  have hc8 : Below w.heap.size w w8 := hc7.trans (hb8.mono hc7.size)
  go_wp2_with fail
  with_reducible refine (HRI2.out _ (HV.out.below hc8)).mono ?_
  rintro e w9 ⟨rfl, hb9⟩
  have hz9 := hb9.size
  have hc9 : Below w.heap.size w w9 := hc8.trans (hb9.mono hc8.size)
  go_wp2_with fail
  with_reducible refine (HER.out _ (HV.out.below hc9)).mono ?_
  rintro e w10 ⟨rfl, hb10⟩
  have hz10 := hb10.size
  have hc10 : Below w.heap.size w w10 := hc9.trans (hb10.mono hc9.size)
  go_wp2_with fail
  with_reducible refine (HER2.out _ (HV.out.below hc10)).mono ?_
  rintro e w11 ⟨rfl, hb11⟩
  have hz11 := hb11.size
  have hc11 : Below w.heap.size w w11 := hc10.trans (hb11.mono hc10.size)
  go_wp2_with fail
  with_reducible refine (HGA.out _ (HV.out.below hc11)).mono ?_
  rintro e w12 ⟨rfl, hb12⟩
  have hz12 := hb12.size
  have hc12 : Below w.heap.size w w12 := hc11.trans (hb12.mono hc11.size)
  go_wp2_with fail
  with_reducible refine (HGA2.out _ (HV.out.below hc12)).mono ?_
  rintro e w13 ⟨rfl, hb13⟩
  have hz13 := hb13.size
  have hc13 : Below w.heap.size w w13 := hc12.trans (hb13.mono hc12.size)
  go_wp2_with fail
  with_reducible refine (HCO.out _ (HV.out.below hc13)).mono ?_
  rintro e w14 ⟨rfl, hb14⟩
  have hz14 := hb14.size
  have hc14 : Below w.heap.size w w14 := hc13.trans (hb14.mono hc13.size)
  go_wp2_with fail
  with_reducible refine (HCO2.out _ (HV.out.below hc14)).mono ?_
  rintro e w15 ⟨rfl, hb15⟩
  go_wp2_with fail
  go_ret
  exact ⟨rfl, hc14.trans (hb15.mono hc14.size)⟩
end Go.Proofs.Ytnjhnkbjbkbnoaa
