/- The law PipeOrder: its walk. Conditions: what came in is shaped. -/
import Derived.Test.YthnfcmfdengnbaaPipeStays
import Derived.Test.YthnfcmfdengnbaaQTail
import Derived.Deep.RegionHeld3
namespace Go.Proofs.Ythnfcmfdengnbaa
open Go Go.RowKit Go.Tm
set_option linter.unusedVariables false
set_option linter.unusedSimpArgs false

theorem readS_join (d : ByteArray) (q n : Int) (h : (readS d q n).2.2 = 0) : (readS d q n).2.1 ++ (readS d q n).1 = d := by
  unfold readS at h ⊢
  split at h
  · cases h
  · rename_i h1
    rw [if_neg h1]
    split at h
    · rename_i h2; rw [if_pos h2]; simp [show (⟨#[]⟩ : ByteArray) = ByteArray.empty from rfl]
    · rename_i h2
      rw [if_neg h2]
      split at h
      · rename_i h3; rw [if_pos h3]; simp [show (⟨#[]⟩ : ByteArray) = ByteArray.empty from rfl]
      · rename_i h3
        rw [if_neg h3]
        simp only
        rw [ByteArray.extract_append_extract]
        simp
theorem readS_same (d : ByteArray) (q n : Int) (h : ¬ (readS d q n).2.2 = 0) : (readS d q n).1 = d := by
  rcases readS_err d q n with h1 | h1
  · exact absurd h1 h
  · exact h1.1
theorem readS_text (d : ByteArray) (q n : Int) (hd : d.size ≤ 8) : (readS d q n).2.1.size ≤ 8 := by
  unfold readS
  split; · exact (by decide : (⟨#[]⟩ : ByteArray).size ≤ 8)
  split; · exact (by decide : (⟨#[]⟩ : ByteArray).size ≤ 8)
  split; · exact (by decide : (⟨#[]⟩ : ByteArray).size ≤ 8)
  simp; omega
theorem writeS_join (d : ByteArray) (r : Int) (s : ByteArray) : (writeS d r s).1 = d ++ s.extract 0 (writeS d r s).2.1.toNat ∧ 0 ≤ (writeS d r s).2.1 ∧ (writeS d r s).2.1 ≤ s.size ∧ (writeS d r s).2.1 ≤ 8 := by
  unfold writeS
  split; · simp
  split; · simp
  split; · simp
  refine ⟨by simp, by dsimp only; omega, by dsimp only; omega, by dsimp only; omega⟩

/-- The worlds in which a region's loads read what they read at its beginning. -/
def SR (w : World) (p : Nat) (D : ByteArray) (b o : Nat) (n : Int) (W : World) : Prop :=
  W.cell? ⟨p, 0, none⟩ = some (.string D) ∧ W.cell? ⟨p, 1, none⟩ = some (.int .i64 1) ∧ W.cell? ⟨p, 2, none⟩ = some (.int .i64 1) ∧ W.cell? ⟨b, o, none⟩ = some (.int .i64 n) ∧ Below w.heap.size w W
theorem below_some {w w' : World} (hb : Below w.heap.size w w') {a : Addr} {v : Value} (h : w.cell? a = some v) : w'.cell? a = some v := by
  have hlt : a.block < w.heap.size := by
    rcases Nat.lt_or_ge a.block w.heap.size with h1 | h1
    · exact h1
    · have h0 : w.heap[a.block]? = none := Array.getElem?_eq_none h1
      simp [World.cell?, h0] at h
  exact (hb.cell hlt).trans h
theorem SR.keep {w : World} {p : Nat} {D : ByteArray} {b o : Nat} {n : Int} {W W' : World} (h : SR w p D b o n W) (hb : Below W.heap.size W W') : SR w p D b o n W' := by
  obtain ⟨h0, h1, h2, h3, h4⟩ := h
  exact ⟨below_some hb h0, below_some hb h1, below_some hb h2, below_some hb h3, h4.trans (hb.mono h4.size)⟩
theorem SR.drew {w : World} {p : Nat} {D : ByteArray} {b o : Nat} {n : Int} {W : World} (h : SR w p D b o n W) : SR w p D b o n W.drew := h.keep ((Below.refl _ _).drew)
theorem SR.alloc {w : World} {p : Nat} {D : ByteArray} {b o : Nat} {n : Int} {W : World} (h : SR w p D b o n W) (x : Obj) : SR w p D b o n (W.alloc x) := h.keep ((Below.refl _ _).alloc (Nat.le_refl _) x)

theorem run_slice_to {P : Program} {t : TypeId} (ht : P.underlying t = some .string) (s : ByteArray) (y : Int) (b : Nat) (hy : y = b) (h2 : b ≤ s.size) (W : World) :
    (Instr.slice t (.string s) none (some (.int .i64 y)) none).run P W = .ok (.string (s.extract 0 b)) W := by
  subst hy
  simp [Instr.slice, run_underlying ht, Instr.sliceBounds, Instr.sliceBound, asIntOf, h2]

/-- What is known of one act. -/
def actV (rd : Bool) (n : Int) (s : ByteArray) : Value := .agg #[.bool rd, .int .i64 n, .string s]

/-- The same, of a text. -/
def SW (w : World) (p : Nat) (D : ByteArray) (b o : Nat) (s : ByteArray) (W : World) : Prop :=
  W.cell? ⟨p, 0, none⟩ = some (.string D) ∧ W.cell? ⟨p, 1, none⟩ = some (.int .i64 1) ∧ W.cell? ⟨p, 2, none⟩ = some (.int .i64 1) ∧ W.cell? ⟨b, o, none⟩ = some (.string s) ∧ Below w.heap.size w W
theorem SW.keep {w : World} {p : Nat} {D : ByteArray} {b o : Nat} {s : ByteArray} {W W' : World} (h : SW w p D b o s W) (hb : Below W.heap.size W W') : SW w p D b o s W' := by
  obtain ⟨h0, h1, h2, h3, h4⟩ := h
  exact ⟨below_some hb h0, below_some hb h1, below_some hb h2, below_some hb h3, h4.trans (hb.mono h4.size)⟩

set_option maxRecDepth 100000 in
set_option maxHeartbeats 4000000 in
theorem pipeOrder_walk (v : Value) (xs : List Value) (w : World) (hsl : Sl w true 3 v xs) (hel : ∀ x ∈ xs, ∃ rd n s, x = actV rd n s ∧ s.size ≤ 9223372036854775807) :
    Calls Try.prog 5 #[v] w fun e w' => e = .returned (.bool true) ∧ Below w.heap.size w w' := by
  obtain ⟨hsz, a, cap, rfl, hl, hm, hform⟩ := hsl
  unfold maxLen at hm
  have hlen : xs.length ≤ 9223372036854775807 := by omega
  go_enter Try.func5, Try.ntmps5
  ((go_wp2_with fail); (with_reducible refine (shown_true _).mono ?_); (rintro e w1 ⟨rfl, hb1⟩); (have hz1 := hb1.size); (try simp only [World.size_alloc, World.size_setCell] at hz1))
  go_wp2_with fail
  go_loopw [5, 6, 7] (fun tin tout t W => ∃ (i : Nat) (D I O : ByteArray), i ≤ xs.length ∧ i ≤ 300 ∧ t = .int .i64 i ∧ tin = .string I ∧ tout = .string O ∧ O ++ D = I ∧ D.size ≤ 8 ∧ I.size ≤ 8 * i ∧
      Below w.heap.size w W ∧ Box W w1.heap.size #[.string D, .int .i64 1, .int .i64 1] 26) (fun _ _ t _ => 300 - (intOf t).toNat)
  case atStart => exact ⟨0, ⟨#[]⟩, ⟨#[]⟩, ⟨#[]⟩, Nat.zero_le _, Nat.zero_le _, rfl, rfl, rfl, rfl, by decide, by decide, by (repeat (first | with_reducible exact Below.refl _ _ | with_reducible refine Below.setCell ?_ ?_ _ | with_reducible refine Below.alloc ?_ ?_ _ | with_reducible refine below_drewN' ?_ _ | with_reducible refine Below.drew ?_ | with_reducible refine Below.trans ?_ (Below.mono (by assumption) ?_) | omega | (dsimp only; omega) | (simp only [drew_heap', drewN_heap', World.size_alloc, World.size_setCell]; omega) | (solve | simp) | (solve | (simp; omega)))), by ((apply Box.cast); (repeat (first | with_reducible assumption | ((with_reducible apply Box.new1); (first | with_reducible rfl | rfl | (solve | simp))) | with_reducible apply Box.drewN | with_reducible apply Box.drew | with_reducible apply Box.set | with_reducible apply Box.other | with_reducible apply Box.alloc | (with_reducible apply Box.below; rotate_left; with_reducible assumption; rotate_right) | with_reducible rfl | omega | (dsimp only; omega) | (simp only [drew_heap', drewN_heap', World.size_alloc, World.size_setCell]; omega) | rfl | (solve | simp) | (solve | (simp; omega)))))⟩
  case round =>
    obtain ⟨i, D, I, O, hi1, hi2, rfl, rfl, rfl, hj, hD, hI, hbw, hB⟩ := hrel
    have HJ := Lib.hid hj
    have hOs : O.size ≤ 8 * 300 := by have := congrArg ByteArray.size hj; simp at this; omega
    clear hj
    obtain ⟨hcb, hfb, hlb, hnb, hmb⟩ := hB.rules
    have KB := Lib.hid hB
    clear hB
    have hws := hbw.size
    by_cases hlt : i < xs.length ∧ i < 300
    · obtain ⟨hlt, hlt2⟩ := hlt
      obtain ⟨x, hx⟩ : ∃ x, xs[i]? = some x := ⟨_, List.getElem?_eq_getElem hlt⟩
      have hmem : x ∈ xs := List.mem_of_getElem? hx
      obtain ⟨rd, n, s, rfl, hs⟩ := hel x hmem
      obtain ⟨b, off, rfl, hb, hcell⟩ : ∃ b off, a = some ⟨b, off, none⟩ ∧ b < w.heap.size ∧ Cells wr b (off + i * 3) (actV rd n s).cells.toList := by
        rcases hform with h0 | ⟨b, off, ha, hb, hc⟩
        · subst h0; simp at hlt
        · exact ⟨b, off, ha, hb, (hc i _ hx).below hbw hb⟩
      have c0 : wr.cell? ⟨b, off + i * 3, none⟩ = some (.bool rd) := hcell 0 _ rfl
      have c1 : wr.cell? ⟨b, off + i * 3 + 1, none⟩ = some (.int .i64 n) := hcell 1 _ rfl
      have c2 : wr.cell? ⟨b, off + i * 3 + 2, none⟩ = some (.string s) := hcell 2 _ rfl
      clear hcell hx hmem hform hsz hel
      cases rd with
      | true =>
        have hR := read_any D 1 1 n
        have hjn := readS_join D 1 n
        have hsm := readS_same D 1 n
        have htx := readS_text D 1 n hD
        have hrs := readS_right D 1 n hD
        generalize readS D 1 n = rr at *
        obtain ⟨D', T, er⟩ := rr
        dsimp only at hR hjn hsm htx hrs
        have cR : ∀ dd os, Calls Try.prog 12 #[.agg #[.string D, .int .i64 1, .int .i64 1], .int .i64 n] (Go.Sort.grow (redrawn wr dd) os) fun e w'' => e = .returned (.tuple #[.agg #[.string D', .int .i64 1, .int .i64 1], .string T, .int .i64 er]) ∧ ∃ p : Regrown, w'' = Go.Sort.grow (redrawn wr p.d) p.os := fun dd os => Calls.regrown_of (hR _ (by omega))
        have CR := Lib.hid cR
        have HJN := Lib.hid hjn
        have HSM := Lib.hid hsm
        clear hjn hsm cR
        go_wp2_with fail
        have hP0 := hcb 0; have hP1 := hcb 1; have hP2 := hcb 2
        have hN1 := World.new_ne wr _ hP0; have hN2 := World.new_ne wr _ hP1; have hN3 := World.new_ne wr _ hP2; have hN4 := World.new_ne wr _ c1
        have hS0 : SR wr w1.heap.size D b (off + i * 3 + 1) n wr := ⟨hP0, hP1, hP2, c1, Below.refl _ _⟩
        go_region_held3 (fun W => W.cell? ⟨w1.heap.size, 0, none⟩ = some (.string D) ∧ W.cell? ⟨w1.heap.size, 1, none⟩ = some (.int .i64 1) ∧ W.cell? ⟨w1.heap.size, 2, none⟩ = some (.int .i64 1) ∧ W.cell? ⟨b, off + i * 3 + 1, none⟩ = some (.int .i64 n) ∧ Below wr.heap.size wr W) ((refine SR.keep hS0 ?_; (repeat (first | with_reducible exact Below.refl _ _ | with_reducible refine Below.setCell ?_ ?_ _ | with_reducible refine Below.alloc ?_ ?_ _ | with_reducible refine below_drewN' ?_ _ | with_reducible refine Below.drew ?_ | with_reducible refine Below.trans ?_ (Below.mono (by assumption) ?_) | omega | (dsimp only; omega) | (simp only [drew_heap', drewN_heap', World.size_alloc, World.size_setCell]; omega) | (solve | simp) | (solve | (simp; omega)))))) ((go_at_call 12; refine (hR _ (by omega)).mono ?_; rintro e w7 ⟨rfl, hb7⟩; (have hs7 : wr.heap.size ≤ w7.heap.size := (by first | exact hb7.size | exact Nat.le_trans ((Below.refl wr.heap.size wr).alloc (Nat.le_refl _) _).drew.size hb7.size)); (try (with_reducible have hz7 := (Box.below (Box.drew (Box.new1 wr #[.string ⟨#[]⟩, .int .i64 0, .int .i64 0] 26 (rfl : wr.heap.size = wr.heap.size))) hb7 (by simp only [drew_heap', World.size_alloc]; omega)).rules)); (try (obtain ⟨hcz, hfz, hlz, hnz, hmz⟩ := hz7))))
        all_goals (have b7 : Box w7 w1.heap.size #[.string D, .int .i64 1, .int .i64 1] 26 := (by (try have k7 := KB.out); ((apply Box.cast); (repeat (first | with_reducible assumption | ((with_reducible apply Box.new1); (first | with_reducible rfl | rfl | (solve | simp))) | with_reducible apply Box.drewN | with_reducible apply Box.drew | with_reducible apply Box.set | with_reducible apply Box.other | with_reducible apply Box.alloc | (with_reducible apply Box.below; rotate_left; with_reducible assumption; rotate_right) | with_reducible rfl | omega | (dsimp only; omega) | (simp only [drew_heap', drewN_heap', World.size_alloc, World.size_setCell]; omega) | rfl | (solve | simp) | (solve | (simp; omega))))))); (obtain ⟨hc7, hf7, hl7, hn7, hm7⟩ := b7.rules); (have K7 := Lib.hid b7); (clear b7)
        all_goals (
          clear hP0 hP1 hP2 hN1 hN2 hN3 hN4 hS0 hcb hfb
          by_cases her : er = 0)
        all_goals (first | subst her | (have hne : (er == 0) = false := by simpa using her))
        all_goals go_wp2_with fail
        all_goals go_roundw
        all_goals first
          | (refine ⟨i + 1, D', I, O ++ T, by omega, by omega, by go_num, rfl, rfl, by rw [ByteArray.append_assoc, HJN.out rfl]; exact HJ.out, hrs, by omega, by (repeat (first | with_reducible exact Below.refl _ _ | with_reducible refine Below.setCell ?_ ?_ _ | with_reducible refine Below.alloc ?_ ?_ _ | with_reducible refine below_drewN' ?_ _ | with_reducible refine Below.drew ?_ | with_reducible refine Below.trans ?_ (Below.mono (by assumption) ?_) | omega | (dsimp only; omega) | (simp only [drew_heap', drewN_heap', World.size_alloc, World.size_setCell]; omega) | (solve | simp) | (solve | (simp; omega)))), ?_⟩; have k7 := K7.out; ((apply Box.cast); (repeat (first | with_reducible assumption | ((with_reducible apply Box.new1); (first | with_reducible rfl | rfl | (solve | simp))) | with_reducible apply Box.drewN | with_reducible apply Box.drew | with_reducible apply Box.set | with_reducible apply Box.other | with_reducible apply Box.alloc | (with_reducible apply Box.below; rotate_left; with_reducible assumption; rotate_right) | with_reducible rfl | omega | (dsimp only; omega) | (simp only [drew_heap', drewN_heap', World.size_alloc, World.size_setCell]; omega) | rfl | (solve | simp) | (solve | (simp; omega))))); done)
          | (refine ⟨i + 1, D', I, O, by omega, by omega, by go_num, rfl, rfl, by rw [HSM.out (by assumption)]; exact HJ.out, hrs, by omega, by (repeat (first | with_reducible exact Below.refl _ _ | with_reducible refine Below.setCell ?_ ?_ _ | with_reducible refine Below.alloc ?_ ?_ _ | with_reducible refine below_drewN' ?_ _ | with_reducible refine Below.drew ?_ | with_reducible refine Below.trans ?_ (Below.mono (by assumption) ?_) | omega | (dsimp only; omega) | (simp only [drew_heap', drewN_heap', World.size_alloc, World.size_setCell]; omega) | (solve | simp) | (solve | (simp; omega)))), ?_⟩; have k7 := K7.out; ((apply Box.cast); (repeat (first | with_reducible assumption | ((with_reducible apply Box.new1); (first | with_reducible rfl | rfl | (solve | simp))) | with_reducible apply Box.drewN | with_reducible apply Box.drew | with_reducible apply Box.set | with_reducible apply Box.other | with_reducible apply Box.alloc | (with_reducible apply Box.below; rotate_left; with_reducible assumption; rotate_right) | with_reducible rfl | omega | (dsimp only; omega) | (simp only [drew_heap', drewN_heap', World.size_alloc, World.size_setCell]; omega) | rfl | (solve | simp) | (solve | (simp; omega))))); done)
          | (simp [intOf]; omega)
      | false =>
        have hW := fun W => write_any D 1 1 s W (by omega) hs
        have hjn := writeS_join D 1 s
        have hrs := writeS_right D 1 s hD
        have her := writeS_err D 1 s
        generalize writeS D 1 s = rr at *
        obtain ⟨D', m, er⟩ := rr
        dsimp only at hW hjn hrs her
        obtain ⟨hj1, hj2, hj3, hj4⟩ := hjn
        have HJN := Lib.hid hj1
        clear hj1
        have hRt : ∀ W, Calls Try.prog 16 #[.agg #[.string D', .int .i64 1, .int .i64 1]] W fun e w' => e = .returned (.bool true) ∧ Below W.heap.size W w' := fun W => by
          have := right_any D' 1 1 W (by omega)
          rwa [decide_eq_true (⟨hrs, by decide, by decide⟩ : D'.size ≤ 8 ∧ (0:Int) ≤ 1 ∧ (0:Int) ≤ 1)] at this
        have hxs := fun W => run_slice_to (P := Try.prog) (t := 9) (by kernel_rfl) s m m.toNat (by omega) (by omega) W
        have hms : (s.extract 0 m.toNat).size ≤ 8 := by simp; omega
        go_wp2_with fail
        have hP0 := hcb 0; have hP1 := hcb 1; have hP2 := hcb 2
        have hN1 := World.new_ne wr _ hP0; have hN2 := World.new_ne wr _ hP1; have hN3 := World.new_ne wr _ hP2; have hN4 := World.new_ne wr _ c2
        have hS0 : SW wr w1.heap.size D b (off + i * 3 + 2) s wr := ⟨hP0, hP1, hP2, c2, Below.refl _ _⟩
        go_region_held3 (fun W => W.cell? ⟨w1.heap.size, 0, none⟩ = some (.string D) ∧ W.cell? ⟨w1.heap.size, 1, none⟩ = some (.int .i64 1) ∧ W.cell? ⟨w1.heap.size, 2, none⟩ = some (.int .i64 1) ∧ W.cell? ⟨b, off + i * 3 + 2, none⟩ = some (.string s) ∧ Below wr.heap.size wr W) ((refine SW.keep hS0 ?_; (repeat (first | with_reducible exact Below.refl _ _ | with_reducible refine Below.setCell ?_ ?_ _ | with_reducible refine Below.alloc ?_ ?_ _ | with_reducible refine below_drewN' ?_ _ | with_reducible refine Below.drew ?_ | with_reducible refine Below.trans ?_ (Below.mono (by assumption) ?_) | omega | (dsimp only; omega) | (simp only [drew_heap', drewN_heap', World.size_alloc, World.size_setCell]; omega) | (solve | simp) | (solve | (simp; omega)))))) ((go_at_call 13; refine (hW _).mono ?_; rintro e w7 ⟨rfl, hb7⟩; (have hs7 : wr.heap.size ≤ w7.heap.size := (by first | exact hb7.size | exact Nat.le_trans ((Below.refl wr.heap.size wr).alloc (Nat.le_refl _) _).drew.size hb7.size)); (try (with_reducible have hz7 := Lib.hid (Box.below (Box.drew (Box.new1 wr #[.string ⟨#[]⟩, .int .i64 0, .int .i64 0] 26 (rfl : wr.heap.size = wr.heap.size))) hb7 (by simp only [drew_heap', World.size_alloc]; omega)))); (try (have KZ := hz7)); (try (obtain ⟨hcz, hfz, hlz, hnz, hmz⟩ := hz7.out.rules))))
        all_goals (have hm1 : (decide (m < 0)) = false := by simpa using hj2)
        all_goals (have hm2 : (decide (m > (s.size : Int))) = false := by simpa using hj3)
        · have B9 : Box (w7.alloc (.cells #[.string D', .int .i64 1, .int .i64 1] 26)) w7.heap.size #[.string D', .int .i64 1, .int .i64 1] 26 := by (try have kz := KZ.out); ((apply Box.cast); (repeat (first | with_reducible assumption | ((with_reducible apply Box.new1); (first | with_reducible rfl | rfl | (solve | simp))) | with_reducible apply Box.drewN | with_reducible apply Box.drew | with_reducible apply Box.set | with_reducible apply Box.other | with_reducible apply Box.alloc | (with_reducible apply Box.below; rotate_left; with_reducible assumption; rotate_right) | with_reducible rfl | omega | (dsimp only; omega) | (simp only [drew_heap', drewN_heap', World.size_alloc, World.size_setCell]; omega) | rfl | (solve | simp) | (solve | (simp; omega)))))
          have P9 : Box (w7.alloc (.cells #[.string D', .int .i64 1, .int .i64 1] 26)) w1.heap.size #[.string D, .int .i64 1, .int .i64 1] 26 := by have kb := KB.out; ((apply Box.cast); (repeat (first | with_reducible assumption | ((with_reducible apply Box.new1); (first | with_reducible rfl | rfl | (solve | simp))) | with_reducible apply Box.drewN | with_reducible apply Box.drew | with_reducible apply Box.set | with_reducible apply Box.other | with_reducible apply Box.alloc | (with_reducible apply Box.below; rotate_left; with_reducible assumption; rotate_right) | with_reducible rfl | omega | (dsimp only; omega) | (simp only [drew_heap', drewN_heap', World.size_alloc, World.size_setCell]; omega) | rfl | (solve | simp) | (solve | (simp; omega)))))
          have L9 : Below wr.heap.size wr (w7.alloc (.cells #[.string D', .int .i64 1, .int .i64 1] 26)) := by (repeat (first | with_reducible exact Below.refl _ _ | with_reducible refine Below.setCell ?_ ?_ _ | with_reducible refine Below.alloc ?_ ?_ _ | with_reducible refine below_drewN' ?_ _ | with_reducible refine Below.drew ?_ | with_reducible refine Below.trans ?_ (Below.mono (by assumption) ?_) | omega | (dsimp only; omega) | (simp only [drew_heap', drewN_heap', World.size_alloc, World.size_setCell]; omega) | (solve | simp) | (solve | (simp; omega))))
          have N9 : wr.heap.size ≤ w7.heap.size := by omega
          generalize (w7.alloc (.cells #[.string D', .int .i64 1, .int .i64 1] 26)) = w9 at *
          generalize hkk : w7.heap.size = k at B9 N9 ⊢
          (
          have N8 : ¬ k = w1.heap.size := by omega
          have hl9 := B9.lt
          have hz9 := L9.size
          have c9 : w9.cell? ⟨b, off + i * 3 + 2, none⟩ = some (.string s) := below_some L9 c2
          have K9 := Lib.hid P9
          have KK := Lib.hid B9
          clear hP0 hP1 hP2 hN1 hN2 hN3 hN4 hS0 hcb hfb hlb hnb hmb hb7 c0 c1 c2 P9 B9
          (try clear hHeld)
          (try clear KZ)
          obtain ⟨hc9, hf9, hlp9, hn9, hm9⟩ := K9.out.rules
          obtain ⟨hc8, hf8, hl8, hn8, hm8⟩ := KK.out.rules
          rcases her with rfl | ⟨hd0, rfl, her0⟩
          · go_wp2_with fail
            with_reducible refine (hRt _).mono ?_
            rintro e w8 ⟨rfl, hb8⟩
            go_wp2_with fail
            go_roundw
            case rel =>
              refine ⟨i + 1, D', I ++ s.extract 0 m.toNat, O, by omega, by omega, by go_num, rfl, rfl, by rw [HJN.out, ← ByteArray.append_assoc, HJ.out], hrs, by simp only [ByteArray.size_append]; omega, by (repeat (first | with_reducible exact Below.refl _ _ | with_reducible refine Below.setCell ?_ ?_ _ | with_reducible refine Below.alloc ?_ ?_ _ | with_reducible refine below_drewN' ?_ _ | with_reducible refine Below.drew ?_ | with_reducible refine Below.trans ?_ (Below.mono (by assumption) ?_) | omega | (dsimp only; omega) | (simp only [drew_heap', drewN_heap', World.size_alloc, World.size_setCell]; omega) | (solve | simp) | (solve | (simp; omega)))), ?_⟩
              have k9 := K9.out
              ((apply Box.cast); (repeat (first | with_reducible assumption | ((with_reducible apply Box.new1); (first | with_reducible rfl | rfl | (solve | simp))) | with_reducible apply Box.drewN | with_reducible apply Box.drew | with_reducible apply Box.set | with_reducible apply Box.other | with_reducible apply Box.alloc | (with_reducible apply Box.below; rotate_left; with_reducible assumption; rotate_right) | with_reducible rfl | omega | (dsimp only; omega) | (simp only [drew_heap', drewN_heap', World.size_alloc, World.size_setCell]; omega) | rfl | (solve | simp) | (solve | (simp; omega)))))
            case measure => simp [intOf]; omega
          · have her1 : (er != 0) = true := by simpa using her0
            have HD0 := Lib.hid hd0
            clear hd0
            go_wp2_with fail
            with_reducible refine (hRt _).mono ?_
            rintro e w8 ⟨rfl, hb8⟩
            go_wp2_with fail
            go_roundw
            case rel =>
              refine ⟨i + 1, D', I, O, by omega, by omega, by go_num, rfl, rfl, by rw [HD0.out]; exact HJ.out, hrs, by omega, by (repeat (first | with_reducible exact Below.refl _ _ | with_reducible refine Below.setCell ?_ ?_ _ | with_reducible refine Below.alloc ?_ ?_ _ | with_reducible refine below_drewN' ?_ _ | with_reducible refine Below.drew ?_ | with_reducible refine Below.trans ?_ (Below.mono (by assumption) ?_) | omega | (dsimp only; omega) | (simp only [drew_heap', drewN_heap', World.size_alloc, World.size_setCell]; omega) | (solve | simp) | (solve | (simp; omega)))), ?_⟩
              have k9 := K9.out
              ((apply Box.cast); (repeat (first | with_reducible assumption | ((with_reducible apply Box.new1); (first | with_reducible rfl | rfl | (solve | simp))) | with_reducible apply Box.drewN | with_reducible apply Box.drew | with_reducible apply Box.set | with_reducible apply Box.other | with_reducible apply Box.alloc | (with_reducible apply Box.below; rotate_left; with_reducible assumption; rotate_right) | with_reducible rfl | omega | (dsimp only; omega) | (simp only [drew_heap', drewN_heap', World.size_alloc, World.size_setCell]; omega) | rfl | (solve | simp) | (solve | (simp; omega)))))
            case measure => simp [intOf]; omega)
        · have B9 : Box (((w7.setCell ⟨wr.heap.size, 0, none⟩ (.string D')).setCell ⟨wr.heap.size, 1, none⟩ (.int .i64 1)).setCell ⟨wr.heap.size, 2, none⟩ (.int .i64 1)) wr.heap.size #[.string D', .int .i64 1, .int .i64 1] 26 := by (try have kz := KZ.out); ((apply Box.cast); (repeat (first | with_reducible assumption | ((with_reducible apply Box.new1); (first | with_reducible rfl | rfl | (solve | simp))) | with_reducible apply Box.drewN | with_reducible apply Box.drew | with_reducible apply Box.set | with_reducible apply Box.other | with_reducible apply Box.alloc | (with_reducible apply Box.below; rotate_left; with_reducible assumption; rotate_right) | with_reducible rfl | omega | (dsimp only; omega) | (simp only [drew_heap', drewN_heap', World.size_alloc, World.size_setCell]; omega) | rfl | (solve | simp) | (solve | (simp; omega)))))
          have P9 : Box (((w7.setCell ⟨wr.heap.size, 0, none⟩ (.string D')).setCell ⟨wr.heap.size, 1, none⟩ (.int .i64 1)).setCell ⟨wr.heap.size, 2, none⟩ (.int .i64 1)) w1.heap.size #[.string D, .int .i64 1, .int .i64 1] 26 := by have kb := KB.out; ((apply Box.cast); (repeat (first | with_reducible assumption | ((with_reducible apply Box.new1); (first | with_reducible rfl | rfl | (solve | simp))) | with_reducible apply Box.drewN | with_reducible apply Box.drew | with_reducible apply Box.set | with_reducible apply Box.other | with_reducible apply Box.alloc | (with_reducible apply Box.below; rotate_left; with_reducible assumption; rotate_right) | with_reducible rfl | omega | (dsimp only; omega) | (simp only [drew_heap', drewN_heap', World.size_alloc, World.size_setCell]; omega) | rfl | (solve | simp) | (solve | (simp; omega)))))
          have L9 : Below wr.heap.size wr (((w7.setCell ⟨wr.heap.size, 0, none⟩ (.string D')).setCell ⟨wr.heap.size, 1, none⟩ (.int .i64 1)).setCell ⟨wr.heap.size, 2, none⟩ (.int .i64 1)) := by (repeat (first | with_reducible exact Below.refl _ _ | with_reducible refine Below.setCell ?_ ?_ _ | with_reducible refine Below.alloc ?_ ?_ _ | with_reducible refine below_drewN' ?_ _ | with_reducible refine Below.drew ?_ | with_reducible refine Below.trans ?_ (Below.mono (by assumption) ?_) | omega | (dsimp only; omega) | (simp only [drew_heap', drewN_heap', World.size_alloc, World.size_setCell]; omega) | (solve | simp) | (solve | (simp; omega))))
          have N9 : wr.heap.size ≤ wr.heap.size := by omega
          generalize (((w7.setCell ⟨wr.heap.size, 0, none⟩ (.string D')).setCell ⟨wr.heap.size, 1, none⟩ (.int .i64 1)).setCell ⟨wr.heap.size, 2, none⟩ (.int .i64 1)) = w9 at *
          generalize hkk : wr.heap.size = k at B9 N9 ⊢
          (
          have N8 : ¬ k = w1.heap.size := by omega
          have hl9 := B9.lt
          have hz9 := L9.size
          have c9 : w9.cell? ⟨b, off + i * 3 + 2, none⟩ = some (.string s) := below_some L9 c2
          have K9 := Lib.hid P9
          have KK := Lib.hid B9
          clear hP0 hP1 hP2 hN1 hN2 hN3 hN4 hS0 hcb hfb hlb hnb hmb hb7 c0 c1 c2 P9 B9
          (try clear hHeld)
          (try clear KZ)
          obtain ⟨hc9, hf9, hlp9, hn9, hm9⟩ := K9.out.rules
          obtain ⟨hc8, hf8, hl8, hn8, hm8⟩ := KK.out.rules
          rcases her with rfl | ⟨hd0, rfl, her0⟩
          · go_wp2_with fail
            with_reducible refine (hRt _).mono ?_
            rintro e w8 ⟨rfl, hb8⟩
            go_wp2_with fail
            go_roundw
            case rel =>
              refine ⟨i + 1, D', I ++ s.extract 0 m.toNat, O, by omega, by omega, by go_num, rfl, rfl, by rw [HJN.out, ← ByteArray.append_assoc, HJ.out], hrs, by simp only [ByteArray.size_append]; omega, by (repeat (first | with_reducible exact Below.refl _ _ | with_reducible refine Below.setCell ?_ ?_ _ | with_reducible refine Below.alloc ?_ ?_ _ | with_reducible refine below_drewN' ?_ _ | with_reducible refine Below.drew ?_ | with_reducible refine Below.trans ?_ (Below.mono (by assumption) ?_) | omega | (dsimp only; omega) | (simp only [drew_heap', drewN_heap', World.size_alloc, World.size_setCell]; omega) | (solve | simp) | (solve | (simp; omega)))), ?_⟩
              have k9 := K9.out
              ((apply Box.cast); (repeat (first | with_reducible assumption | ((with_reducible apply Box.new1); (first | with_reducible rfl | rfl | (solve | simp))) | with_reducible apply Box.drewN | with_reducible apply Box.drew | with_reducible apply Box.set | with_reducible apply Box.other | with_reducible apply Box.alloc | (with_reducible apply Box.below; rotate_left; with_reducible assumption; rotate_right) | with_reducible rfl | omega | (dsimp only; omega) | (simp only [drew_heap', drewN_heap', World.size_alloc, World.size_setCell]; omega) | rfl | (solve | simp) | (solve | (simp; omega)))))
            case measure => simp [intOf]; omega
          · have her1 : (er != 0) = true := by simpa using her0
            have HD0 := Lib.hid hd0
            clear hd0
            go_wp2_with fail
            with_reducible refine (hRt _).mono ?_
            rintro e w8 ⟨rfl, hb8⟩
            go_wp2_with fail
            go_roundw
            case rel =>
              refine ⟨i + 1, D', I, O, by omega, by omega, by go_num, rfl, rfl, by rw [HD0.out]; exact HJ.out, hrs, by omega, by (repeat (first | with_reducible exact Below.refl _ _ | with_reducible refine Below.setCell ?_ ?_ _ | with_reducible refine Below.alloc ?_ ?_ _ | with_reducible refine below_drewN' ?_ _ | with_reducible refine Below.drew ?_ | with_reducible refine Below.trans ?_ (Below.mono (by assumption) ?_) | omega | (dsimp only; omega) | (simp only [drew_heap', drewN_heap', World.size_alloc, World.size_setCell]; omega) | (solve | simp) | (solve | (simp; omega)))), ?_⟩
              have k9 := K9.out
              ((apply Box.cast); (repeat (first | with_reducible assumption | ((with_reducible apply Box.new1); (first | with_reducible rfl | rfl | (solve | simp))) | with_reducible apply Box.drewN | with_reducible apply Box.drew | with_reducible apply Box.set | with_reducible apply Box.other | with_reducible apply Box.alloc | (with_reducible apply Box.below; rotate_left; with_reducible assumption; rotate_right) | with_reducible rfl | omega | (dsimp only; omega) | (simp only [drew_heap', drewN_heap', World.size_alloc, World.size_setCell]; omega) | rfl | (solve | simp) | (solve | (simp; omega)))))
            case measure => simp [intOf]; omega)
    · have hup : (decide (i < xs.length) && decide (i < 300)) = false := by simpa using hlt
      rcases Nat.lt_or_ge i xs.length with h1 | h1
      · have hjj := HJ.out
        have h2 : ¬ (i : Int) < 300 := by omega
        go_wp2_with fail
        go_ret
        exact ⟨by simp [hjj], by (repeat (first | with_reducible exact Below.refl _ _ | with_reducible refine Below.setCell ?_ ?_ _ | with_reducible refine Below.alloc ?_ ?_ _ | with_reducible refine below_drewN' ?_ _ | with_reducible refine Below.drew ?_ | with_reducible refine Below.trans ?_ (Below.mono (by assumption) ?_) | omega | (dsimp only; omega) | (simp only [drew_heap', drewN_heap', World.size_alloc, World.size_setCell]; omega) | (solve | simp) | (solve | (simp; omega))))⟩
      · have hjj := HJ.out
        have h2 : ¬ (i : Int) < xs.length := by omega
        go_wp2_with fail
        go_ret
        exact ⟨by simp [hjj], by (repeat (first | with_reducible exact Below.refl _ _ | with_reducible refine Below.setCell ?_ ?_ _ | with_reducible refine Below.alloc ?_ ?_ _ | with_reducible refine below_drewN' ?_ _ | with_reducible refine Below.drew ?_ | with_reducible refine Below.trans ?_ (Below.mono (by assumption) ?_) | omega | (dsimp only; omega) | (simp only [drew_heap', drewN_heap', World.size_alloc, World.size_setCell]; omega) | (solve | simp) | (solve | (simp; omega))))⟩
end Go.Proofs.Ythnfcmfdengnbaa
