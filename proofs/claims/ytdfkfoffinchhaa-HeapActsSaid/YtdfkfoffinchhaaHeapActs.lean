/- The law HeapActs: its walk. Conditions: what came in is shaped. -/
import Derived.Test.YtdfkfoffinchhaaHeapRef2
import Derived.Test.YtdfkfoffinchhaaHeapRef3
import Derived.Test.YtdfkfoffinchhaaHeapRef4
import Derived.Test.YtdfkfoffinchhaaHeapBackLaw
namespace Go.Proofs.Ytdfkfoffinchhaa
open Go Go.RowKit Go.Tm
set_option linter.unusedVariables false
set_option linter.unusedSimpArgs false


theorem ty_heap : Ty Try.prog 24 2 true := ⟨by kernel_rfl, by kernel_rfl, by decide, by kernel_rfl⟩

theorem hp_val (n : Int) (a : Option Addr) (k c : Nat) : Val true 2 (.agg #[.int .i64 n, .slice a k c]) := ⟨_, rfl, rfl, by intro c hc; simp at hc; rcases hc with rfl | rfl <;> rfl⟩
theorem holesG_who {a : Int} {m : List Sp} {x : Sp} (h : x ∈ holesG a m) : x.2.2 = 0 := by
  induction m generalizing a with
  | nil => simp [holesG] at h
  | cons s r ih =>
    rcases List.mem_append.1 (show x ∈ hole a s ++ holesG (s.1 + s.2.1) r from h) with h | h
    · exact (hole_mem h).2.2.2
    · exact ih h
theorem holesB_wf {size : Int} {l : List Sp} (hs : (Lit.int .i64 size).wf = true) : ∀ x ∈ holesB size l, SpWf x := by
  intro x hx
  have hsz := size_range hs
  by_cases hr : RightP size l
  · rw [holesB_true hr] at hx
    have h1 := hole_in hr hx
    have h2 : x.2.2 = 0 := holesG_who hx
    exact ⟨wf_of (by omega), wf_of (by omega), wf_of (by omega)⟩
  · rw [holesB_false hr] at hx; cases hx
theorem spans_same (v u : Value) (l : List Sp) (w : World) (hv : Sl w true 3 v (sps l)) (hu : Sl w true 3 u (sps l)) (hl : ∀ x ∈ l, SpWf x) :
    Calls Try.prog 22 #[v, u] w fun e w' => e = .returned (.bool true) ∧ Below w.heap.size w w' := by
  have h := spans_any v u l l w hv hu hl hl
  rwa [decide_eq_true rfl] at h

set_option maxRecDepth 100000 in
set_option maxHeartbeats 8000000 in
theorem heapActs_walk (size : Int) (v : Value) (l : List Sp) (n who : Int) (w : World) (hv : Sl w true 3 v (sps l)) (hs : (Lit.int .i64 size).wf = true) (hw : ∀ x ∈ l, SpWf x) (hn : (Lit.int .i64 n).wf = true) (hu : (Lit.int .i64 who).wf = true) (hby : (l.length + 2) * 24 ≤ 140737488355328) :
    Calls Try.prog 9 #[.agg #[.int .i64 size, v], .int .i64 n, .int .i64 who] w fun e w' => e = .returned (.bool true) ∧ Below w.heap.size w w' := by
  have HV := Lib.hid hv
  have HT := Lib.hid (fun W h => take_any size v l n who W h hs hw (by omega))
  have HT2 := Lib.hid (fun W h => refTake_any size v l n who W h hs hw hby)
  have HF := Lib.hid (fun W h => free_any size v l n W h (by omega))
  have HF2 := Lib.hid (fun W h => refFree_any size v l n W h (by omega))
  have HN := Lib.hid (fun W => new_any n W)
  have HN2 := Lib.hid (fun W => refNew_any n W)
  have HD := Lib.hid (fun W h => drop_any size v l who W h (by omega))
  have HD2 := Lib.hid (fun W h => refDrop_any size v l who W h (by omega))
  have HC := Lib.hid (fun W h => holesC_any size v l W h hs hw (by omega))
  have HC2 := Lib.hid (fun W h => refHoles_any size v l W h hs hw (by omega))
  have HL := Lib.hid (fun W h => left_any size v l W h hs hw (by omega))
  have HL2 := Lib.hid (fun W h => refLeft_any size v l W h hs hw (by omega))
  have HR := Lib.hid (fun W h => right_any size v l W h hs hw)
  have HR2 := Lib.hid (fun W h => refRight_any size v l W h hs hw)
  have HWT := Lib.hid (take_wf (n := n) (who := who) hw hs hn hu)
  have HWF := Lib.hid (free_wf hw n)
  have HWD := Lib.hid (drop_wf hw who)
  have HWH := Lib.hid (holesB_wf (l := l) hs)
  obtain ⟨a, cap, rfl, hl⟩ := hv.shape
  rw [sps_len] at hl HV HT HT2 HF HF2 HD HD2 HC HC2 HL HL2 HR HR2 ⊢
  clear hv hs hw hn hu
  generalize takeS size l n who = ts at *
  generalize freeS l n = fs at *
  generalize dropS l who = ld at *
  generalize holesB size l = hb at *
  generalize sumN hb = sl at *
  generalize rightB size l = rb at *
  obtain ⟨lk, ak, ek⟩ := ts
  obtain ⟨lf, bf⟩ := fs
  dsimp only at HT HT2 HF HF2 HWT HWF
  generalize (if bf = true then (0 : Int) else 7) = ef at HF HF2
  generalize (if n < 0 then (0 : Int) else n) = nn at HN HN2
  generalize (if n < 0 then (1 : Int) else 0) = en at HN HN2
  go_enter Try.func9, Try.ntmps9
  ((go_wp2_with fail); (with_reducible refine (shown_any _).mono ?_); (rintro e w1 ⟨rfl, hb1⟩); (have hz1 := hb1.size); (try simp only [World.size_alloc, World.size_setCell] at hz1))
  (have b1 : Box w1 w.heap.size #[.int .i64 size, .slice a l.length cap] 24 := (by (try have k1 := (Lib.hid True.intro).out); ((apply Box.cast); (repeat (first | with_reducible assumption | ((with_reducible apply Box.new1); (first | with_reducible rfl | rfl | (solve | simp))) | with_reducible apply Box.drewN | with_reducible apply Box.drew | with_reducible apply Box.set | with_reducible apply Box.other | with_reducible apply Box.alloc | (with_reducible apply Box.below; rotate_left; with_reducible assumption; rotate_right) | with_reducible rfl | omega | (dsimp only; omega) | (simp only [drew_heap', drewN_heap', World.size_alloc, World.size_setCell]; omega) | rfl | (solve | simp) | (solve | (simp; omega))))))); (obtain ⟨hc1, hf1, hl1, hn1, hm1⟩ := b1.rules); (have K1 := Lib.hid b1); (clear b1)
  have hbw1 : Below w.heap.size w w1 := by (repeat (first | with_reducible assumption | with_reducible exact Below.refl _ _ | with_reducible refine Below.setCell ?_ ?_ _ | with_reducible refine Below.alloc ?_ ?_ _ | with_reducible refine below_drewN' ?_ _ | with_reducible refine Below.drew ?_ | with_reducible refine Below.trans ?_ (Below.mono (by assumption) ?_) | omega | (dsimp only; omega) | (simp only [drew_heap', drewN_heap', World.size_alloc, World.size_setCell]; omega) | (solve | simp) | (solve | (simp; omega))))
  clear hb1
  go_wp2_with fail
  with_reducible refine (HT.out _ (HV.out.below hbw1)).mono ?_
  rintro e w2 ⟨v2, rfl, hs2, hr2, hb2⟩
  have hbw2 : Below w.heap.size w w2 := hbw1.trans (hb2.mono hbw1.size)
  have hz2 := hbw2.size
  obtain ⟨a2, k2, hv2, _⟩ := hs2.shape
  rw [sps_len] at hv2
  subst hv2
  have S2 := Lib.hid hs2
  ((have b2 := K1.out.below hb2 K1.out.lt); (obtain ⟨hc2, hf2, hl2, hn2, hm2⟩ := b2.rules); (have K2 := Lib.hid b2); (clear b2))
  clear hs2 hr2 hb2 K1 hc1 hf1 hl1 hn1 hm1
  go_wp2_with fail
  have hbA2 : Below w2.heap.size w2 (w2.alloc (.cells #[.int .i64 size, .slice a2 lk.length k2] 24)) := (Below.refl _ _).alloc (Nat.le_refl _) _
  have X2 := Lib.hid (Box.new w2 #[.int .i64 size, .slice a2 lk.length k2] 24)
  with_reducible refine (HT2.out _ (HV.out.below (hbw2.trans (hbA2.mono hz2)))).mono ?_
  rintro e w3 ⟨v3, rfl, hs3, hb3⟩
  have hbS3 : Below w2.heap.size w2 w3 := hbA2.trans (hb3.mono hbA2.size)
  have hbw3 : Below w.heap.size w w3 := hbw2.trans (hbS3.mono hz2)
  have hz3 := hbw3.size
  have Y2 := Lib.hid (X2.out.below hb3 X2.out.lt)
  have K2_3 := Lib.hid (K2.out.below hbS3 K2.out.lt)
  have S2_3 := Lib.hid (S2.out.below hbS3)
  obtain ⟨a3, k3, hv3, _⟩ := hs3.shape
  rw [sps_len] at hv3
  subst hv3
  have S3 := Lib.hid hs3
  clear hs3
  obtain ⟨hc3, hf3, hl3, hn3, hm3⟩ := K2_3.out.rules
  clear hb3 hbA2 hbS3 X2 hc2 hf2 hl2 hn2 hm2 K2 S2
  go_wp2_with fail
  have hbA3 : Below w3.heap.size w3 (w3.alloc (.cells #[.int .i64 size, .slice a3 lk.length k3] 24)) := (Below.refl _ _).alloc (Nat.le_refl _) _
  have X3 := Lib.hid (Box.new w3 #[.int .i64 size, .slice a3 lk.length k3] 24)
  with_reducible refine (HF.out _ (HV.out.below (hbw3.trans (hbA3.mono hz3)))).mono ?_
  rintro e w4 ⟨v4, rfl, hs4, hr4, hb4⟩
  have hbS4 : Below w3.heap.size w3 w4 := hbA3.trans (hb4.mono hbA3.size)
  have hbw4 : Below w.heap.size w w4 := hbw3.trans (hbS4.mono hz3)
  have hz4 := hbw4.size
  have Y3 := Lib.hid (X3.out.below hb4 X3.out.lt)
  have K2_3_4 := Lib.hid (K2_3.out.below hbS4 K2_3.out.lt)
  have Y2_4 := Lib.hid (Y2.out.below hbS4 Y2.out.lt)
  have S2_3_4 := Lib.hid (S2_3.out.below hbS4)
  have S3_4 := Lib.hid (S3.out.below hbS4)
  obtain ⟨a4, k4, hv4, _⟩ := hs4.shape
  rw [sps_len] at hv4
  subst hv4
  have S4 := Lib.hid hs4
  clear hs4
  obtain ⟨hc4, hf4, hl4, hn4, hm4⟩ := K2_3_4.out.rules
  clear hb4 hbA3 hbS4 X3 hc3 hf3 hl3 hn3 hm3 K2_3 Y2 S2_3 S3
  clear hr4
  go_wp2_with fail
  have hbA4 : Below w4.heap.size w4 (w4.alloc (.cells #[.int .i64 size, .slice a4 lf.length k4] 24)) := (Below.refl _ _).alloc (Nat.le_refl _) _
  have X4 := Lib.hid (Box.new w4 #[.int .i64 size, .slice a4 lf.length k4] 24)
  with_reducible refine (HF2.out _ (HV.out.below (hbw4.trans (hbA4.mono hz4)))).mono ?_
  rintro e w5 ⟨v5, rfl, hs5, hb5⟩
  have hbS5 : Below w4.heap.size w4 w5 := hbA4.trans (hb5.mono hbA4.size)
  have hbw5 : Below w.heap.size w w5 := hbw4.trans (hbS5.mono hz4)
  have hz5 := hbw5.size
  have Y4 := Lib.hid (X4.out.below hb5 X4.out.lt)
  have K2_3_4_5 := Lib.hid (K2_3_4.out.below hbS5 K2_3_4.out.lt)
  have Y2_4_5 := Lib.hid (Y2_4.out.below hbS5 Y2_4.out.lt)
  have Y3_5 := Lib.hid (Y3.out.below hbS5 Y3.out.lt)
  have S2_3_4_5 := Lib.hid (S2_3_4.out.below hbS5)
  have S3_4_5 := Lib.hid (S3_4.out.below hbS5)
  have S4_5 := Lib.hid (S4.out.below hbS5)
  obtain ⟨a5, k5, hv5, _⟩ := hs5.shape
  rw [sps_len] at hv5
  subst hv5
  have S5 := Lib.hid hs5
  clear hs5
  obtain ⟨hc5, hf5, hl5, hn5, hm5⟩ := K2_3_4_5.out.rules
  clear hb5 hbA4 hbS5 X4 hc4 hf4 hl4 hn4 hm4 K2_3_4 Y2_4 Y3 S2_3_4 S3_4 S4
  go_wp2_with fail
  have hbA5 : Below w5.heap.size w5 (w5.alloc (.cells #[.int .i64 size, .slice a5 lf.length k5] 24)) := (Below.refl _ _).alloc (Nat.le_refl _) _
  have X5 := Lib.hid (Box.new w5 #[.int .i64 size, .slice a5 lf.length k5] 24)
  with_reducible refine (HN.out _).mono ?_
  rintro e w6 ⟨rfl, hb6⟩
  have hbS6 : Below w5.heap.size w5 w6 := hbA5.trans (hb6.mono hbA5.size)
  have hbw6 : Below w.heap.size w w6 := hbw5.trans (hbS6.mono hz5)
  have hz6 := hbw6.size
  have Y5 := Lib.hid (X5.out.below hb6 X5.out.lt)
  have K2_3_4_5_6 := Lib.hid (K2_3_4_5.out.below hbS6 K2_3_4_5.out.lt)
  have Y2_4_5_6 := Lib.hid (Y2_4_5.out.below hbS6 Y2_4_5.out.lt)
  have Y3_5_6 := Lib.hid (Y3_5.out.below hbS6 Y3_5.out.lt)
  have Y4_6 := Lib.hid (Y4.out.below hbS6 Y4.out.lt)
  have S2_3_4_5_6 := Lib.hid (S2_3_4_5.out.below hbS6)
  have S3_4_5_6 := Lib.hid (S3_4_5.out.below hbS6)
  have S4_5_6 := Lib.hid (S4_5.out.below hbS6)
  have S5_6 := Lib.hid (S5.out.below hbS6)
  obtain ⟨hc6, hf6, hl6, hn6, hm6⟩ := K2_3_4_5_6.out.rules
  clear hb6 hbA5 hbS6 X5 hc5 hf5 hl5 hn5 hm5 K2_3_4_5 Y2_4_5 Y3_5 Y4 S2_3_4_5 S3_4_5 S4_5 S5
  go_wp2_with fail
  have hbA6 : Below w6.heap.size w6 (w6.alloc (.cells #[.int .i64 nn, .slice none 0 0] 24)) := (Below.refl _ _).alloc (Nat.le_refl _) _
  have X6 := Lib.hid (Box.new w6 #[.int .i64 nn, .slice none 0 0] 24)
  with_reducible refine (HN2.out _).mono ?_
  rintro e w7 ⟨rfl, hb7⟩
  have hbS7 : Below w6.heap.size w6 w7 := hbA6.trans (hb7.mono hbA6.size)
  have hbw7 : Below w.heap.size w w7 := hbw6.trans (hbS7.mono hz6)
  have hz7 := hbw7.size
  have Y6 := Lib.hid (X6.out.below hb7 X6.out.lt)
  have K2_3_4_5_6_7 := Lib.hid (K2_3_4_5_6.out.below hbS7 K2_3_4_5_6.out.lt)
  have Y2_4_5_6_7 := Lib.hid (Y2_4_5_6.out.below hbS7 Y2_4_5_6.out.lt)
  have Y3_5_6_7 := Lib.hid (Y3_5_6.out.below hbS7 Y3_5_6.out.lt)
  have Y4_6_7 := Lib.hid (Y4_6.out.below hbS7 Y4_6.out.lt)
  have Y5_7 := Lib.hid (Y5.out.below hbS7 Y5.out.lt)
  have S2_3_4_5_6_7 := Lib.hid (S2_3_4_5_6.out.below hbS7)
  have S3_4_5_6_7 := Lib.hid (S3_4_5_6.out.below hbS7)
  have S4_5_6_7 := Lib.hid (S4_5_6.out.below hbS7)
  have S5_6_7 := Lib.hid (S5_6.out.below hbS7)
  obtain ⟨hc7, hf7, hl7, hn7, hm7⟩ := K2_3_4_5_6_7.out.rules
  clear hb7 hbA6 hbS7 X6 hc6 hf6 hl6 hn6 hm6 K2_3_4_5_6 Y2_4_5_6 Y3_5_6 Y4_6 Y5 S2_3_4_5_6 S3_4_5_6 S4_5_6 S5_6
  go_wp2_with fail
  have hbA7 : Below w7.heap.size w7 (w7.alloc (.cells #[.int .i64 nn, .slice none 0 0] 24)) := (Below.refl _ _).alloc (Nat.le_refl _) _
  have Y7 := Lib.hid (Box.new w7 #[.int .i64 nn, .slice none 0 0] 24)
  have hbw8 : Below w.heap.size w (w7.alloc (.cells #[.int .i64 nn, .slice none 0 0] 24)) := hbw7.trans (hbA7.mono hz7)
  have K2_3_4_5_6_7b := Lib.hid (K2_3_4_5_6_7.out.below hbA7 K2_3_4_5_6_7.out.lt)
  have Y2_4_5_6_7b := Lib.hid (Y2_4_5_6_7.out.below hbA7 Y2_4_5_6_7.out.lt)
  have Y3_5_6_7b := Lib.hid (Y3_5_6_7.out.below hbA7 Y3_5_6_7.out.lt)
  have Y4_6_7b := Lib.hid (Y4_6_7.out.below hbA7 Y4_6_7.out.lt)
  have Y5_7b := Lib.hid (Y5_7.out.below hbA7 Y5_7.out.lt)
  have Y6b := Lib.hid (Y6.out.below hbA7 Y6.out.lt)
  have S2_3_4_5_6_7b := Lib.hid (S2_3_4_5_6_7.out.below hbA7)
  have S3_4_5_6_7b := Lib.hid (S3_4_5_6_7.out.below hbA7)
  have S4_5_6_7b := Lib.hid (S4_5_6_7.out.below hbA7)
  have S5_6_7b := Lib.hid (S5_6_7.out.below hbA7)
  clear hbA7 hc7 hf7 hl7 hn7 hm7 K2_3_4_5_6_7 Y2_4_5_6_7 Y3_5_6_7 Y4_6_7 Y5_7 Y6 S2_3_4_5_6_7 S3_4_5_6_7 S4_5_6_7 S5_6_7
  generalize w7.alloc (.cells #[.int .i64 nn, .slice none 0 0] 24) = w8 at *
  have HKEEP := Lib.hid (show ∀ W, Below w8.heap.size w8 W → (Box W w.heap.size #[.int .i64 size, .slice a l.length cap] 24 ∧ Box W w2.heap.size #[.int .i64 size, .slice a2 lk.length k2] 24 ∧ Box W w3.heap.size #[.int .i64 size, .slice a3 lk.length k3] 24 ∧ Box W w4.heap.size #[.int .i64 size, .slice a4 lf.length k4] 24 ∧ Box W w5.heap.size #[.int .i64 size, .slice a5 lf.length k5] 24 ∧ Box W w6.heap.size #[.int .i64 nn, .slice none 0 0] 24 ∧ Box W w7.heap.size #[.int .i64 nn, .slice none 0 0] 24 ∧ Below w8.heap.size w8 W) from fun W h => ⟨K2_3_4_5_6_7b.out.below h K2_3_4_5_6_7b.out.lt, Y2_4_5_6_7b.out.below h Y2_4_5_6_7b.out.lt, Y3_5_6_7b.out.below h Y3_5_6_7b.out.lt, Y4_6_7b.out.below h Y4_6_7b.out.lt, Y5_7b.out.below h Y5_7b.out.lt, Y6b.out.below h Y6b.out.lt, Y7.out.below h Y7.out.lt, h⟩)
  have hz8 := hbw8.size
  have LA := Lib.hid (fun W (h : Below w8.heap.size w8 W) => S2_3_4_5_6_7b.out.below h)
  have LB := Lib.hid (fun W (h : Below w8.heap.size w8 W) => S3_4_5_6_7b.out.below h)
  have LC := Lib.hid (fun W (h : Below w8.heap.size w8 W) => S4_5_6_7b.out.below h)
  have LD := Lib.hid (fun W (h : Below w8.heap.size w8 W) => S5_6_7b.out.below h)
  clear K2_3_4_5_6_7b Y2_4_5_6_7b Y3_5_6_7b Y4_6_7b Y5_7b Y6b Y7 S2_3_4_5_6_7b S3_4_5_6_7b S4_5_6_7b S5_6_7b
  refine wp_region_held_drew (S := fun W => Box W w.heap.size #[.int .i64 size, .slice a l.length cap] 24 ∧ Box W w2.heap.size #[.int .i64 size, .slice a2 lk.length k2] 24 ∧ Box W w3.heap.size #[.int .i64 size, .slice a3 lk.length k3] 24 ∧ Box W w4.heap.size #[.int .i64 size, .slice a4 lf.length k4] 24 ∧ Box W w5.heap.size #[.int .i64 size, .slice a5 lf.length k5] 24 ∧ Box W w6.heap.size #[.int .i64 nn, .slice none 0 0] 24 ∧ Box W w7.heap.size #[.int .i64 nn, .slice none 0 0] 24 ∧ Below w8.heap.size w8 W) (by kernel_rfl) (HKEEP.out _ (Below.refl _ _).drew) (fun hHeld => ?_)
  ((refine wpAnyH_take (i := 0) (oi := ⟨some 63, _, _, _, _, _⟩) rfl (by kernel_rfl) (by kernel_rfl) (by kernel_rfl) (fun _ _ _ h => h) (yieldsIf_load_box 24 _ rfl (#[.int .i64 size, .slice a2 lk.length k2]) ty_heap (hp_val size a2 lk.length k2) (by rfl) ?_ (fun w hs => hs.2.1)) (by assumption) ?_); (focus (solve | simp [Act.eval, Act.put])); (try simp only [Act.put, List.setIfInBounds_toArray, List.set_cons_zero, List.set_cons_succ]))
  ((refine wpAnyH_take (i := 1) (oi := ⟨some 64, _, _, _, _, _⟩) rfl (by kernel_rfl) (by kernel_rfl) (by kernel_rfl) (fun _ _ _ h => h) (yieldsIf_load_box 24 _ rfl (#[.int .i64 size, .slice a3 lk.length k3]) ty_heap (hp_val size a3 lk.length k3) (by rfl) ?_ (fun w hs => hs.2.2.1)) (by assumption) ?_); (focus (solve | simp [Act.eval, Act.put])); (try simp only [Act.put, List.setIfInBounds_toArray, List.set_cons_zero, List.set_cons_succ]))
  ((refine wpAnyH_ready (rs := [2]) (by kernel_rfl) (by simp) ?_); (refine AllReadyH.cons (o := ⟨some 65, _, _, _, _, _⟩) rfl (fun K hK => ?_) AllReadyH.nil); go_simp; (with_reducible refine (refSame_same size _ _ lk _ (LA.out _ (Below.refl _ _).drew) (LB.out _ (Below.refl _ _).drew) HWT.out).mono ?_); (rintro en w9 ⟨rfl, hb9⟩); ((have hz9 := hb9.size); (try simp only [drew_heap', drewN_heap', World.size_alloc] at hz9); (have hbc9 : Below w8.heap.size w8 w9 := (by (repeat (first | with_reducible assumption | with_reducible exact Below.refl _ _ | with_reducible refine Below.setCell ?_ ?_ _ | with_reducible refine Below.alloc ?_ ?_ _ | with_reducible refine below_drewN' ?_ _ | with_reducible refine Below.drew ?_ | with_reducible refine Below.trans ?_ (Below.mono (by assumption) ?_) | omega | (dsimp only; omega) | (simp only [drew_heap', drewN_heap', World.size_alloc, World.size_setCell]; omega) | (solve | simp) | (solve | (simp; omega)))))); (have hbw9 : Below w.heap.size w w9 := hbw8.trans (hbc9.mono hz8))); (try go_wp2_with fail); (refine hK.out _ _ (HKEEP.out _ hbc9) (fun hHeld => ?_)); (clear hK K); (try simp only [Act.put, List.setIfInBounds_toArray, List.set_cons_zero, List.set_cons_succ]))
  clear hb9
  ((refine wpAnyH_take (i := 3) (oi := ⟨some 66, _, _, _, _, _⟩) (v := ?_) rfl (by kernel_rfl) (by kernel_rfl) (by kernel_rfl) (fun _ _ _ h => h) (Or.inl ⟨by rfl, ?_⟩) (by assumption) ?_); rotate_left; (focus ((intro w hSw); (try dsimp only at hSw); go_simp; (try with_reducible rfl))); (try simp only [Act.put, List.setIfInBounds_toArray, List.set_cons_zero, List.set_cons_succ]))
  ((refine wpAnyH_take (i := 4) (oi := ⟨some 67, _, _, _, _, _⟩) rfl (by kernel_rfl) (by kernel_rfl) (by kernel_rfl) (fun _ _ _ h => h) (yieldsIf_load_box 24 _ rfl (#[.int .i64 size, .slice a4 lf.length k4]) ty_heap (hp_val size a4 lf.length k4) (by rfl) ?_ (fun w hs => hs.2.2.2.1)) (by assumption) ?_); (focus (solve | simp [Act.eval, Act.put])); (try simp only [Act.put, List.setIfInBounds_toArray, List.set_cons_zero, List.set_cons_succ]))
  ((refine wpAnyH_take (i := 5) (oi := ⟨some 68, _, _, _, _, _⟩) rfl (by kernel_rfl) (by kernel_rfl) (by kernel_rfl) (fun _ _ _ h => h) (yieldsIf_load_box 24 _ rfl (#[.int .i64 size, .slice a5 lf.length k5]) ty_heap (hp_val size a5 lf.length k5) (by rfl) ?_ (fun w hs => hs.2.2.2.2.1)) (by assumption) ?_); (focus (solve | simp [Act.eval, Act.put])); (try simp only [Act.put, List.setIfInBounds_toArray, List.set_cons_zero, List.set_cons_succ]))
  ((refine wpAnyH_ready (rs := [6]) (by kernel_rfl) (by simp) ?_); (refine AllReadyH.cons (o := ⟨some 69, _, _, _, _, _⟩) rfl (fun K hK => ?_) AllReadyH.nil); go_simp; (with_reducible refine (refSame_same size _ _ lf _ (LC.out _ hbc9) (LD.out _ hbc9) HWF.out).mono ?_); (rintro en w10 ⟨rfl, hb10⟩); ((have hz10 := hb10.size); (try simp only [drew_heap', drewN_heap', World.size_alloc] at hz10); (have hbc10 : Below w8.heap.size w8 w10 := (by (repeat (first | with_reducible assumption | with_reducible exact Below.refl _ _ | with_reducible refine Below.setCell ?_ ?_ _ | with_reducible refine Below.alloc ?_ ?_ _ | with_reducible refine below_drewN' ?_ _ | with_reducible refine Below.drew ?_ | with_reducible refine Below.trans ?_ (Below.mono (by assumption) ?_) | omega | (dsimp only; omega) | (simp only [drew_heap', drewN_heap', World.size_alloc, World.size_setCell]; omega) | (solve | simp) | (solve | (simp; omega)))))); (have hbw10 : Below w.heap.size w w10 := hbw8.trans (hbc10.mono hz8))); (try go_wp2_with fail); (refine hK.out _ _ (HKEEP.out _ hbc10) (fun hHeld => ?_)); (clear hK K); (try simp only [Act.put, List.setIfInBounds_toArray, List.set_cons_zero, List.set_cons_succ]))
  clear hb10
  ((refine wpAnyH_take (i := 7) (oi := ⟨some 70, _, _, _, _, _⟩) (v := ?_) rfl (by kernel_rfl) (by kernel_rfl) (by kernel_rfl) (fun _ _ _ h => h) (Or.inl ⟨by rfl, ?_⟩) (by assumption) ?_); rotate_left; (focus ((intro w hSw); (try dsimp only at hSw); go_simp; (try with_reducible rfl))); (try simp only [Act.put, List.setIfInBounds_toArray, List.set_cons_zero, List.set_cons_succ]))
  ((refine wpAnyH_take (i := 8) (oi := ⟨some 71, _, _, _, _, _⟩) (v := ?_) rfl (by kernel_rfl) (by kernel_rfl) (by kernel_rfl) (fun _ _ _ h => h) (Or.inl ⟨by rfl, ?_⟩) (by assumption) ?_); rotate_left; (focus ((intro w hSw); (try dsimp only at hSw); go_simp; (try with_reducible rfl))); (try simp only [Act.put, List.setIfInBounds_toArray, List.set_cons_zero, List.set_cons_succ]))
  ((refine wpAnyH_take (i := 9) (oi := ⟨some 72, _, _, _, _, _⟩) rfl (by kernel_rfl) (by kernel_rfl) (by kernel_rfl) (fun _ _ _ h => h) (yieldsIf_load_box 24 _ rfl (#[.int .i64 nn, .slice none 0 0]) ty_heap (hp_val nn none 0 0) (by rfl) ?_ (fun w hs => hs.2.2.2.2.2.1)) (by assumption) ?_); (focus (solve | simp [Act.eval, Act.put])); (try simp only [Act.put, List.setIfInBounds_toArray, List.set_cons_zero, List.set_cons_succ]))
  ((refine wpAnyH_take (i := 10) (oi := ⟨some 73, _, _, _, _, _⟩) rfl (by kernel_rfl) (by kernel_rfl) (by kernel_rfl) (fun _ _ _ h => h) (yieldsIf_load_box 24 _ rfl (#[.int .i64 nn, .slice none 0 0]) ty_heap (hp_val nn none 0 0) (by rfl) ?_ (fun w hs => hs.2.2.2.2.2.2.1)) (by assumption) ?_); (focus (solve | simp [Act.eval, Act.put])); (try simp only [Act.put, List.setIfInBounds_toArray, List.set_cons_zero, List.set_cons_succ]))
  ((refine wpAnyH_ready (rs := [11]) (by kernel_rfl) (by simp) ?_); (refine AllReadyH.cons (o := ⟨some 74, _, _, _, _, _⟩) rfl (fun K hK => ?_) AllReadyH.nil); go_simp; (with_reducible refine (refSame_same nn _ _ [] _ (Sl.nil _ _ _) (Sl.nil _ _ _) (by simp)).mono ?_); (rintro en w11 ⟨rfl, hb11⟩); ((have hz11 := hb11.size); (try simp only [drew_heap', drewN_heap', World.size_alloc] at hz11); (have hbc11 : Below w8.heap.size w8 w11 := (by (repeat (first | with_reducible assumption | with_reducible exact Below.refl _ _ | with_reducible refine Below.setCell ?_ ?_ _ | with_reducible refine Below.alloc ?_ ?_ _ | with_reducible refine below_drewN' ?_ _ | with_reducible refine Below.drew ?_ | with_reducible refine Below.trans ?_ (Below.mono (by assumption) ?_) | omega | (dsimp only; omega) | (simp only [drew_heap', drewN_heap', World.size_alloc, World.size_setCell]; omega) | (solve | simp) | (solve | (simp; omega)))))); (have hbw11 : Below w.heap.size w w11 := hbw8.trans (hbc11.mono hz8))); (try go_wp2_with fail); (refine hK.out _ _ (HKEEP.out _ hbc11) (fun hHeld => ?_)); (clear hK K); (try simp only [Act.put, List.setIfInBounds_toArray, List.set_cons_zero, List.set_cons_succ]))
  clear hb11
  ((refine wpAnyH_take (i := 12) (oi := ⟨some 75, _, _, _, _, _⟩) (v := ?_) rfl (by kernel_rfl) (by kernel_rfl) (by kernel_rfl) (fun _ _ _ h => h) (Or.inl ⟨by rfl, ?_⟩) (by assumption) ?_); rotate_left; (focus ((intro w hSw); (try dsimp only at hSw); go_simp; (try with_reducible rfl))); (try simp only [Act.put, List.setIfInBounds_toArray, List.set_cons_zero, List.set_cons_succ]))
  ((refine wpAnyH_take (i := 13) (oi := ⟨some 76, _, _, _, _, _⟩) (v := ?_) rfl (by kernel_rfl) (by kernel_rfl) (by kernel_rfl) (fun _ _ _ h => h) (Or.inl ⟨by rfl, ?_⟩) (by assumption) ?_); rotate_left; (focus ((intro w hSw); (try dsimp only at hSw); go_simp; (try with_reducible rfl))); (try simp only [Act.put, List.setIfInBounds_toArray, List.set_cons_zero, List.set_cons_succ]))
  ((refine wpAnyH_take (i := 14) (oi := ⟨some 77, _, _, _, _, _⟩) rfl (by kernel_rfl) (by kernel_rfl) (by kernel_rfl) (fun _ _ _ h => h) (yieldsIf_load_box 24 _ rfl (#[.int .i64 size, .slice a l.length cap]) ty_heap (hp_val size a l.length cap) (by rfl) ?_ (fun w hs => hs.1)) (by assumption) ?_); (focus (solve | simp [Act.eval, Act.put])); (try simp only [Act.put, List.setIfInBounds_toArray, List.set_cons_zero, List.set_cons_succ]))
  ((refine wpAnyH_take (i := 15) (oi := ⟨some 78, _, _, _, _, _⟩) (v := ?_) rfl (by kernel_rfl) (by kernel_rfl) (by kernel_rfl) (fun _ _ _ h => h) (Or.inl ⟨by rfl, ?_⟩) (by assumption) ?_); rotate_left; (focus ((intro w hSw); (try dsimp only at hSw); go_simp; (try with_reducible rfl))); (try simp only [Act.put, List.setIfInBounds_toArray, List.set_cons_zero, List.set_cons_succ]))
  ((refine wpAnyH_take (i := 17) (oi := ⟨some 80, _, _, _, _, _⟩) rfl (by kernel_rfl) (by kernel_rfl) (by kernel_rfl) (fun _ _ _ h => h) (yieldsIf_load_box 24 _ rfl (#[.int .i64 size, .slice a l.length cap]) ty_heap (hp_val size a l.length cap) (by rfl) ?_ (fun w hs => hs.1)) (by assumption) ?_); (focus (solve | simp [Act.eval, Act.put])); (try simp only [Act.put, List.setIfInBounds_toArray, List.set_cons_zero, List.set_cons_succ]))
  ((refine wpAnyH_take (i := 18) (oi := ⟨some 81, _, _, _, _, _⟩) (v := ?_) rfl (by kernel_rfl) (by kernel_rfl) (by kernel_rfl) (fun _ _ _ h => h) (Or.inl ⟨by rfl, ?_⟩) (by assumption) ?_); rotate_left; (focus ((intro w hSw); (try dsimp only at hSw); go_simp; (try with_reducible rfl))); (try simp only [Act.put, List.setIfInBounds_toArray, List.set_cons_zero, List.set_cons_succ]))
  ((refine wpAnyH_ready (rs := [16]) (by kernel_rfl) (by simp) ?_); (refine AllReadyH.cons (o := ⟨some 79, _, _, _, _, _⟩) rfl (fun K hK => ?_) AllReadyH.nil); go_simp; (with_reducible refine (HD.out _ (HV.out.below hbw11)).mono ?_); (rintro en w12 ⟨v12, rfl, hs12, hb12⟩); ((have hz12 := hb12.size); (try simp only [drew_heap', drewN_heap', World.size_alloc] at hz12); (have hbc12 : Below w8.heap.size w8 w12 := (by (repeat (first | with_reducible assumption | with_reducible exact Below.refl _ _ | with_reducible refine Below.setCell ?_ ?_ _ | with_reducible refine Below.alloc ?_ ?_ _ | with_reducible refine below_drewN' ?_ _ | with_reducible refine Below.drew ?_ | with_reducible refine Below.trans ?_ (Below.mono (by assumption) ?_) | omega | (dsimp only; omega) | (simp only [drew_heap', drewN_heap', World.size_alloc, World.size_setCell]; omega) | (solve | simp) | (solve | (simp; omega)))))); (have hbw12 : Below w.heap.size w w12 := hbw8.trans (hbc12.mono hz8)); (have H12 := Lib.hid hs12); (clear hs12)); (try go_wp2_with fail); (refine hK.out _ _ (HKEEP.out _ hbc12) (fun hHeld => ?_)); (clear hK K); (try simp only [Act.put, List.setIfInBounds_toArray, List.set_cons_zero, List.set_cons_succ]))
  ((refine wpAnyH_ready (rs := [19]) (by kernel_rfl) (by simp) ?_); (refine AllReadyH.cons (o := ⟨some 82, _, _, _, _, _⟩) rfl (fun K hK => ?_) AllReadyH.nil); go_simp; (with_reducible refine (HD2.out _ (HV.out.below hbw12)).mono ?_); (rintro en w13 ⟨v13, rfl, hs13, hb13⟩); ((have hz13 := hb13.size); (try simp only [drew_heap', drewN_heap', World.size_alloc] at hz13); (have hbc13 : Below w8.heap.size w8 w13 := (by (repeat (first | with_reducible assumption | with_reducible exact Below.refl _ _ | with_reducible refine Below.setCell ?_ ?_ _ | with_reducible refine Below.alloc ?_ ?_ _ | with_reducible refine below_drewN' ?_ _ | with_reducible refine Below.drew ?_ | with_reducible refine Below.trans ?_ (Below.mono (by assumption) ?_) | omega | (dsimp only; omega) | (simp only [drew_heap', drewN_heap', World.size_alloc, World.size_setCell]; omega) | (solve | simp) | (solve | (simp; omega)))))); (have hbw13 : Below w.heap.size w w13 := hbw8.trans (hbc13.mono hz8)); (have H13 := Lib.hid hs13); (clear hs13)); (try go_wp2_with fail); (refine hK.out _ _ (HKEEP.out _ hbc13) (fun hHeld => ?_)); (clear hK K); (try simp only [Act.put, List.setIfInBounds_toArray, List.set_cons_zero, List.set_cons_succ]))
  have H12b := Lib.hid (H12.out.below hb13)
  clear hb12 hb13
  ((refine wpAnyH_ready (rs := [20]) (by kernel_rfl) (by simp) ?_); (refine AllReadyH.cons (o := ⟨some 83, _, _, _, _, _⟩) rfl (fun K hK => ?_) AllReadyH.nil); go_simp; (with_reducible refine (refSame_same size v12 v13 ld _ H12b.out H13.out HWD.out).mono ?_); (rintro en w14 ⟨rfl, hb14⟩); ((have hz14 := hb14.size); (try simp only [drew_heap', drewN_heap', World.size_alloc] at hz14); (have hbc14 : Below w8.heap.size w8 w14 := (by (repeat (first | with_reducible assumption | with_reducible exact Below.refl _ _ | with_reducible refine Below.setCell ?_ ?_ _ | with_reducible refine Below.alloc ?_ ?_ _ | with_reducible refine below_drewN' ?_ _ | with_reducible refine Below.drew ?_ | with_reducible refine Below.trans ?_ (Below.mono (by assumption) ?_) | omega | (dsimp only; omega) | (simp only [drew_heap', drewN_heap', World.size_alloc, World.size_setCell]; omega) | (solve | simp) | (solve | (simp; omega)))))); (have hbw14 : Below w.heap.size w w14 := hbw8.trans (hbc14.mono hz8))); (try go_wp2_with fail); (refine hK.out _ _ (HKEEP.out _ hbc14) (fun hHeld => ?_)); (clear hK K); (try simp only [Act.put, List.setIfInBounds_toArray, List.set_cons_zero, List.set_cons_succ]))
  clear hb14 H12 H12b H13
  ((refine wpAnyH_take (i := 21) (oi := ⟨some 84, _, _, _, _, _⟩) (v := ?_) rfl (by kernel_rfl) (by kernel_rfl) (by kernel_rfl) (fun _ _ _ h => h) (Or.inl ⟨by rfl, ?_⟩) (by assumption) ?_); rotate_left; (focus ((intro w hSw); (try dsimp only at hSw); go_simp; (try with_reducible rfl))); (try simp only [Act.put, List.setIfInBounds_toArray, List.set_cons_zero, List.set_cons_succ]))
  ((refine wpAnyH_take (i := 22) (oi := ⟨some 22, _, _, _, _, _⟩) (v := ?_) rfl (by kernel_rfl) (by kernel_rfl) (by kernel_rfl) (fun _ _ _ h => h) (Or.inl ⟨by rfl, ?_⟩) (by assumption) ?_); rotate_left; (focus ((intro w hSw); (try dsimp only at hSw); go_simp; (try with_reducible rfl))); (try simp only [Act.put, List.setIfInBounds_toArray, List.set_cons_zero, List.set_cons_succ]))
  refine wpAnyH_done (by kernel_rfl) ?_ _
  have KB3 := Lib.hid (HKEEP.out _ hbc14).1
  have hz14' := hbw14.size
  clear hz9 hz10 hz11 hz12 hz13 hz14 hbc9 hbc10 hbc11 hbc12 hbc13 hbc14 hbw9 hbw10 hbw11 hbw12 hbw13 LA LB LC LD HKEEP HT HT2 HF HF2 HN HN2 HD HD2
  go_wp2_with fail
  refine wp_region_held_drew (S := fun W => Box W w.heap.size #[.int .i64 size, .slice a l.length cap] 24 ∧ Below w14.heap.size w14 W) (by kernel_rfl) ⟨KB3.out.drew, (Below.refl _ _).drew⟩ (fun hHeld => ?_)
  ((refine wpAnyH_take (i := 0) (oi := ⟨some 85, _, _, _, _, _⟩) rfl (by kernel_rfl) (by kernel_rfl) (by kernel_rfl) (fun _ _ _ h => h) (yieldsIf_load_box 24 _ rfl (#[.int .i64 size, .slice a l.length cap]) ty_heap (hp_val size a l.length cap) (by rfl) ?_ (fun w hs => hs.1)) (by assumption) ?_); (focus (solve | simp [Act.eval, Act.put])); (try simp only [Act.put, List.setIfInBounds_toArray, List.set_cons_zero, List.set_cons_succ]))
  ((refine wpAnyH_take (i := 2) (oi := ⟨some 87, _, _, _, _, _⟩) rfl (by kernel_rfl) (by kernel_rfl) (by kernel_rfl) (fun _ _ _ h => h) (yieldsIf_load_box 24 _ rfl (#[.int .i64 size, .slice a l.length cap]) ty_heap (hp_val size a l.length cap) (by rfl) ?_ (fun w hs => hs.1)) (by assumption) ?_); (focus (solve | simp [Act.eval, Act.put])); (try simp only [Act.put, List.setIfInBounds_toArray, List.set_cons_zero, List.set_cons_succ]))
  ((refine wpAnyH_ready (rs := [1]) (by kernel_rfl) (by simp) ?_); (refine AllReadyH.cons (o := ⟨some 86, _, _, _, _, _⟩) rfl (fun K hK => ?_) AllReadyH.nil); go_simp; (with_reducible refine (HC.out _ (HV.out.below (hbw14.drew))).mono ?_); (rintro en w15 ⟨v15, rfl, ho15, hb15⟩); ((have hz15 := hb15.size); (try simp only [drew_heap', drewN_heap', World.size_alloc] at hz15); (have hbc15 : Below w14.heap.size w14 w15 := (by (repeat (first | with_reducible assumption | with_reducible exact Below.refl _ _ | with_reducible refine Below.setCell ?_ ?_ _ | with_reducible refine Below.alloc ?_ ?_ _ | with_reducible refine below_drewN' ?_ _ | with_reducible refine Below.drew ?_ | with_reducible refine Below.trans ?_ (Below.mono (by assumption) ?_) | omega | (dsimp only; omega) | (simp only [drew_heap', drewN_heap', World.size_alloc, World.size_setCell]; omega) | (solve | simp) | (solve | (simp; omega)))))); (have hbw15 : Below w.heap.size w w15 := hbw14.trans (hbc15.mono hz14')); (have H15 := Lib.hid ho15.sl); (clear ho15)); (try go_wp2_with fail); (refine hK.out _ _ (⟨KB3.out.below hbc15 KB3.out.lt, hbc15⟩) (fun hHeld => ?_)); (clear hK K); (try simp only [Act.put, List.setIfInBounds_toArray, List.set_cons_zero, List.set_cons_succ]))
  ((refine wpAnyH_ready (rs := [3]) (by kernel_rfl) (by simp) ?_); (refine AllReadyH.cons (o := ⟨some 88, _, _, _, _, _⟩) rfl (fun K hK => ?_) AllReadyH.nil); go_simp; (with_reducible refine (HC2.out _ (HV.out.below hbw15)).mono ?_); (rintro en w16 ⟨v16, rfl, ho16, hb16⟩); ((have hz16 := hb16.size); (try simp only [drew_heap', drewN_heap', World.size_alloc] at hz16); (have hbc16 : Below w14.heap.size w14 w16 := (by (repeat (first | with_reducible assumption | with_reducible exact Below.refl _ _ | with_reducible refine Below.setCell ?_ ?_ _ | with_reducible refine Below.alloc ?_ ?_ _ | with_reducible refine below_drewN' ?_ _ | with_reducible refine Below.drew ?_ | with_reducible refine Below.trans ?_ (Below.mono (by assumption) ?_) | omega | (dsimp only; omega) | (simp only [drew_heap', drewN_heap', World.size_alloc, World.size_setCell]; omega) | (solve | simp) | (solve | (simp; omega)))))); (have hbw16 : Below w.heap.size w w16 := hbw14.trans (hbc16.mono hz14')); (have H16 := Lib.hid ho16.sl); (clear ho16)); (try go_wp2_with fail); (refine hK.out _ _ (⟨KB3.out.below hbc16 KB3.out.lt, hbc16⟩) (fun hHeld => ?_)); (clear hK K); (try simp only [Act.put, List.setIfInBounds_toArray, List.set_cons_zero, List.set_cons_succ]))
  have H15b := Lib.hid (H15.out.below hb16)
  clear hb15 hb16
  ((refine wpAnyH_ready (rs := [4]) (by kernel_rfl) (by simp) ?_); (refine AllReadyH.cons (o := ⟨some 89, _, _, _, _, _⟩) rfl (fun K hK => ?_) AllReadyH.nil); go_simp; (with_reducible refine (spans_same v15 v16 hb _ H15b.out H16.out HWH.out).mono ?_); (rintro en w17 ⟨rfl, hb17⟩); ((have hz17 := hb17.size); (try simp only [drew_heap', drewN_heap', World.size_alloc] at hz17); (have hbc17 : Below w14.heap.size w14 w17 := (by (repeat (first | with_reducible assumption | with_reducible exact Below.refl _ _ | with_reducible refine Below.setCell ?_ ?_ _ | with_reducible refine Below.alloc ?_ ?_ _ | with_reducible refine below_drewN' ?_ _ | with_reducible refine Below.drew ?_ | with_reducible refine Below.trans ?_ (Below.mono (by assumption) ?_) | omega | (dsimp only; omega) | (simp only [drew_heap', drewN_heap', World.size_alloc, World.size_setCell]; omega) | (solve | simp) | (solve | (simp; omega)))))); (have hbw17 : Below w.heap.size w w17 := hbw14.trans (hbc17.mono hz14'))); (try go_wp2_with fail); (refine hK.out _ _ (⟨KB3.out.below hbc17 KB3.out.lt, hbc17⟩) (fun hHeld => ?_)); (clear hK K); (try simp only [Act.put, List.setIfInBounds_toArray, List.set_cons_zero, List.set_cons_succ]))
  clear hb17 H15 H15b H16
  ((refine wpAnyH_take (i := 5) (oi := ⟨some 90, _, _, _, _, _⟩) (v := ?_) rfl (by kernel_rfl) (by kernel_rfl) (by kernel_rfl) (fun _ _ _ h => h) (Or.inl ⟨by rfl, ?_⟩) (by assumption) ?_); rotate_left; (focus ((intro w hSw); (try dsimp only at hSw); go_simp; (try with_reducible rfl))); (try simp only [Act.put, List.setIfInBounds_toArray, List.set_cons_zero, List.set_cons_succ]))
  ((refine wpAnyH_take (i := 6) (oi := ⟨some 91, _, _, _, _, _⟩) rfl (by kernel_rfl) (by kernel_rfl) (by kernel_rfl) (fun _ _ _ h => h) (yieldsIf_load_box 24 _ rfl (#[.int .i64 size, .slice a l.length cap]) ty_heap (hp_val size a l.length cap) (by rfl) ?_ (fun w hs => hs.1)) (by assumption) ?_); (focus (solve | simp [Act.eval, Act.put])); (try simp only [Act.put, List.setIfInBounds_toArray, List.set_cons_zero, List.set_cons_succ]))
  ((refine wpAnyH_take (i := 8) (oi := ⟨some 93, _, _, _, _, _⟩) rfl (by kernel_rfl) (by kernel_rfl) (by kernel_rfl) (fun _ _ _ h => h) (yieldsIf_load_box 24 _ rfl (#[.int .i64 size, .slice a l.length cap]) ty_heap (hp_val size a l.length cap) (by rfl) ?_ (fun w hs => hs.1)) (by assumption) ?_); (focus (solve | simp [Act.eval, Act.put])); (try simp only [Act.put, List.setIfInBounds_toArray, List.set_cons_zero, List.set_cons_succ]))
  ((refine wpAnyH_ready (rs := [7]) (by kernel_rfl) (by simp) ?_); (refine AllReadyH.cons (o := ⟨some 92, _, _, _, _, _⟩) rfl (fun K hK => ?_) AllReadyH.nil); go_simp; (with_reducible refine (HL.out _ (HV.out.below hbw17)).mono ?_); (rintro en w18 ⟨rfl, hb18⟩); ((have hz18 := hb18.size); (try simp only [drew_heap', drewN_heap', World.size_alloc] at hz18); (have hbc18 : Below w14.heap.size w14 w18 := (by (repeat (first | with_reducible assumption | with_reducible exact Below.refl _ _ | with_reducible refine Below.setCell ?_ ?_ _ | with_reducible refine Below.alloc ?_ ?_ _ | with_reducible refine below_drewN' ?_ _ | with_reducible refine Below.drew ?_ | with_reducible refine Below.trans ?_ (Below.mono (by assumption) ?_) | omega | (dsimp only; omega) | (simp only [drew_heap', drewN_heap', World.size_alloc, World.size_setCell]; omega) | (solve | simp) | (solve | (simp; omega)))))); (have hbw18 : Below w.heap.size w w18 := hbw14.trans (hbc18.mono hz14'))); (try go_wp2_with fail); (refine hK.out _ _ (⟨KB3.out.below hbc18 KB3.out.lt, hbc18⟩) (fun hHeld => ?_)); (clear hK K); (try simp only [Act.put, List.setIfInBounds_toArray, List.set_cons_zero, List.set_cons_succ]))
  clear hb18
  ((refine wpAnyH_ready (rs := [9]) (by kernel_rfl) (by simp) ?_); (refine AllReadyH.cons (o := ⟨some 94, _, _, _, _, _⟩) rfl (fun K hK => ?_) AllReadyH.nil); go_simp; (with_reducible refine (HL2.out _ (HV.out.below hbw18)).mono ?_); (rintro en w19 ⟨rfl, hb19⟩); ((have hz19 := hb19.size); (try simp only [drew_heap', drewN_heap', World.size_alloc] at hz19); (have hbc19 : Below w14.heap.size w14 w19 := (by (repeat (first | with_reducible assumption | with_reducible exact Below.refl _ _ | with_reducible refine Below.setCell ?_ ?_ _ | with_reducible refine Below.alloc ?_ ?_ _ | with_reducible refine below_drewN' ?_ _ | with_reducible refine Below.drew ?_ | with_reducible refine Below.trans ?_ (Below.mono (by assumption) ?_) | omega | (dsimp only; omega) | (simp only [drew_heap', drewN_heap', World.size_alloc, World.size_setCell]; omega) | (solve | simp) | (solve | (simp; omega)))))); (have hbw19 : Below w.heap.size w w19 := hbw14.trans (hbc19.mono hz14'))); (try go_wp2_with fail); (refine hK.out _ _ (⟨KB3.out.below hbc19 KB3.out.lt, hbc19⟩) (fun hHeld => ?_)); (clear hK K); (try simp only [Act.put, List.setIfInBounds_toArray, List.set_cons_zero, List.set_cons_succ]))
  clear hb19
  ((refine wpAnyH_take (i := 10) (oi := ⟨some 95, _, _, _, _, _⟩) (v := ?_) rfl (by kernel_rfl) (by kernel_rfl) (by kernel_rfl) (fun _ _ _ h => h) (Or.inl ⟨by rfl, ?_⟩) (by assumption) ?_); rotate_left; (focus ((intro w hSw); (try dsimp only at hSw); go_simp; (try with_reducible rfl))); (try simp only [Act.put, List.setIfInBounds_toArray, List.set_cons_zero, List.set_cons_succ]))
  ((refine wpAnyH_take (i := 11) (oi := ⟨some 96, _, _, _, _, _⟩) (v := ?_) rfl (by kernel_rfl) (by kernel_rfl) (by kernel_rfl) (fun _ _ _ h => h) (Or.inl ⟨by rfl, ?_⟩) (by assumption) ?_); rotate_left; (focus ((intro w hSw); (try dsimp only at hSw); go_simp; (try with_reducible rfl))); (try simp only [Act.put, List.setIfInBounds_toArray, List.set_cons_zero, List.set_cons_succ]))
  ((refine wpAnyH_take (i := 12) (oi := ⟨some 97, _, _, _, _, _⟩) (v := ?_) rfl (by kernel_rfl) (by kernel_rfl) (by kernel_rfl) (fun _ _ _ h => h) (Or.inl ⟨by rfl, ?_⟩) (by assumption) ?_); rotate_left; (focus ((intro w hSw); (try dsimp only at hSw); go_simp; (try with_reducible rfl))); (try simp only [Act.put, List.setIfInBounds_toArray, List.set_cons_zero, List.set_cons_succ]))
  ((refine wpAnyH_take (i := 13) (oi := ⟨some 98, _, _, _, _, _⟩) rfl (by kernel_rfl) (by kernel_rfl) (by kernel_rfl) (fun _ _ _ h => h) (yieldsIf_load_box 24 _ rfl (#[.int .i64 size, .slice a l.length cap]) ty_heap (hp_val size a l.length cap) (by rfl) ?_ (fun w hs => hs.1)) (by assumption) ?_); (focus (solve | simp [Act.eval, Act.put])); (try simp only [Act.put, List.setIfInBounds_toArray, List.set_cons_zero, List.set_cons_succ]))
  ((refine wpAnyH_take (i := 15) (oi := ⟨some 100, _, _, _, _, _⟩) rfl (by kernel_rfl) (by kernel_rfl) (by kernel_rfl) (fun _ _ _ h => h) (yieldsIf_load_box 24 _ rfl (#[.int .i64 size, .slice a l.length cap]) ty_heap (hp_val size a l.length cap) (by rfl) ?_ (fun w hs => hs.1)) (by assumption) ?_); (focus (solve | simp [Act.eval, Act.put])); (try simp only [Act.put, List.setIfInBounds_toArray, List.set_cons_zero, List.set_cons_succ]))
  ((refine wpAnyH_ready (rs := [14]) (by kernel_rfl) (by simp) ?_); (refine AllReadyH.cons (o := ⟨some 99, _, _, _, _, _⟩) rfl (fun K hK => ?_) AllReadyH.nil); go_simp; (with_reducible refine (HR.out _ (HV.out.below hbw19)).mono ?_); (rintro en w20 ⟨rfl, hb20⟩); ((have hz20 := hb20.size); (try simp only [drew_heap', drewN_heap', World.size_alloc] at hz20); (have hbc20 : Below w14.heap.size w14 w20 := (by (repeat (first | with_reducible assumption | with_reducible exact Below.refl _ _ | with_reducible refine Below.setCell ?_ ?_ _ | with_reducible refine Below.alloc ?_ ?_ _ | with_reducible refine below_drewN' ?_ _ | with_reducible refine Below.drew ?_ | with_reducible refine Below.trans ?_ (Below.mono (by assumption) ?_) | omega | (dsimp only; omega) | (simp only [drew_heap', drewN_heap', World.size_alloc, World.size_setCell]; omega) | (solve | simp) | (solve | (simp; omega)))))); (have hbw20 : Below w.heap.size w w20 := hbw14.trans (hbc20.mono hz14'))); (try go_wp2_with fail); (refine hK.out _ _ (⟨KB3.out.below hbc20 KB3.out.lt, hbc20⟩) (fun hHeld => ?_)); (clear hK K); (try simp only [Act.put, List.setIfInBounds_toArray, List.set_cons_zero, List.set_cons_succ]))
  clear hb20
  ((refine wpAnyH_ready (rs := [16]) (by kernel_rfl) (by simp) ?_); (refine AllReadyH.cons (o := ⟨some 101, _, _, _, _, _⟩) rfl (fun K hK => ?_) AllReadyH.nil); go_simp; (with_reducible refine (HR2.out _ (HV.out.below hbw20)).mono ?_); (rintro en w21 ⟨rfl, hb21⟩); ((have hz21 := hb21.size); (try simp only [drew_heap', drewN_heap', World.size_alloc] at hz21); (have hbc21 : Below w14.heap.size w14 w21 := (by (repeat (first | with_reducible assumption | with_reducible exact Below.refl _ _ | with_reducible refine Below.setCell ?_ ?_ _ | with_reducible refine Below.alloc ?_ ?_ _ | with_reducible refine below_drewN' ?_ _ | with_reducible refine Below.drew ?_ | with_reducible refine Below.trans ?_ (Below.mono (by assumption) ?_) | omega | (dsimp only; omega) | (simp only [drew_heap', drewN_heap', World.size_alloc, World.size_setCell]; omega) | (solve | simp) | (solve | (simp; omega)))))); (have hbw21 : Below w.heap.size w w21 := hbw14.trans (hbc21.mono hz14'))); (try go_wp2_with fail); (refine hK.out _ _ (⟨KB3.out.below hbc21 KB3.out.lt, hbc21⟩) (fun hHeld => ?_)); (clear hK K); (try simp only [Act.put, List.setIfInBounds_toArray, List.set_cons_zero, List.set_cons_succ]))
  clear hb21
  ((refine wpAnyH_take (i := 17) (oi := ⟨some 102, _, _, _, _, _⟩) (v := ?_) rfl (by kernel_rfl) (by kernel_rfl) (by kernel_rfl) (fun _ _ _ h => h) (Or.inl ⟨by rfl, ?_⟩) (by assumption) ?_); rotate_left; (focus ((intro w hSw); (try dsimp only at hSw); go_simp; (try with_reducible rfl))); (try simp only [Act.put, List.setIfInBounds_toArray, List.set_cons_zero, List.set_cons_succ]))
  ((refine wpAnyH_take (i := 18) (oi := ⟨some 103, _, _, _, _, _⟩) (v := ?_) rfl (by kernel_rfl) (by kernel_rfl) (by kernel_rfl) (fun _ _ _ h => h) (Or.inl ⟨by rfl, ?_⟩) (by assumption) ?_); rotate_left; (focus ((intro w hSw); (try dsimp only at hSw); go_simp; (try with_reducible rfl))); (try simp only [Act.put, List.setIfInBounds_toArray, List.set_cons_zero, List.set_cons_succ]))
  ((refine wpAnyH_take (i := 19) (oi := ⟨some 23, _, _, _, _, _⟩) (v := ?_) rfl (by kernel_rfl) (by kernel_rfl) (by kernel_rfl) (fun _ _ _ h => h) (Or.inl ⟨by rfl, ?_⟩) (by assumption) ?_); rotate_left; (focus ((intro w hSw); (try dsimp only at hSw); go_simp; (try with_reducible rfl))); (try simp only [Act.put, List.setIfInBounds_toArray, List.set_cons_zero, List.set_cons_succ]))
  refine wpAnyH_done (by kernel_rfl) ?_ _
  have hz21' := hbw21.size
  clear hz15 hz16 hz17 hz18 hz19 hz20 hz21 hbc15 hbc16 hbc17 hbc18 hbc19 hbc20 hbc21 hbw15 hbw16 hbw17 hbw18 hbw19 hbw20
  go_wp2_with fail
  go_ret
  exact ⟨by simp, hbw21⟩
end Go.Proofs.Ytdfkfoffinchhaa
