/- The reference's Errors, Gap. Conditions: lengths within the reach. -/
import Derived.Test.YtnjhnkbjbkbnoaaTraceRef
namespace Go.Proofs.Ytnjhnkbjbkbnoaa
open Go Go.RowKit Go.Tm
set_option linter.unusedVariables false
set_option linter.unusedSimpArgs false

set_option maxHeartbeats 2000000 in
theorem refErrors_any (v : Value) (l : List Ev) (w : World) (hv : Sl w true 4 v (evs l)) (hw : ∀ x ∈ l, EvWf x) :
    Calls Try.prog 20 #[v] w fun e w' => e = .returned (.int .i64 (errE l)) ∧ Below w.heap.size w w' := by
  have HV := Lib.hid hv
  have HW := Lib.hid hw
  obtain ⟨a, cap, rfl, hl⟩ := hv.shape
  rw [evs_len] at hl HV ⊢
  clear hv hw
  go_enter Try.func20, Try.ntmps20
  go_wp2_with fail
  go_loopw [3, 4] (fun s t W => ∃ i : Nat, i ≤ l.length ∧ t = .int .i64 i ∧ s = .int .i64 (errE (l.take i)) ∧ Below w.heap.size w W) (fun _ t _ => l.length - (intOf t).toNat)
  case atStart => exact ⟨0, Nat.zero_le _, rfl, rfl, Below.refl _ _⟩
  case round =>
    obtain ⟨i, hi, rfl, rfl, hbw⟩ := hrel
    have hws := hbw.size
    by_cases hlt : i < l.length
    · obtain ⟨x, hx⟩ : ∃ x, l[i]? = some x := ⟨_, List.getElem?_eq_getElem hlt⟩
      obtain ⟨b, off, rfl, hb, c0, c1, c2, c3⟩ := Sl.ev (HV.out.below hbw) hx
      have hxr := u32_range (HW.out x (List.mem_of_getElem? hx)).2.2.1
      have HF := Lib.hid (fun W => refFailed_any x.2.2.1 W hxr.1 (by omega))
      have hst := congrArg List.length (filter_take_step hx isErr)
      have hle := filter_take_le l i isErr
      change errE (l.take i) ≤ i at hle
      change errE (l.take (i + 1)) = _ at hst
      rw [List.length_append] at hst
      change _ = errE (l.take i) + _ at hst
      have hie : isErr x = decide (4294967282 ≤ x.2.2.1) := rfl
      rw [← hie] at HF
      have hwr : IntKind.i64.wrap ((i : Int) + 1) = i + 1 := IntWalk.i64_in _ (by omega)
      have hwj : IntKind.i64.wrap ((errE (l.take i) : Int) + 1) = errE (l.take i) + 1 := IntWalk.i64_in _ (by omega)
      clear hx hie hxr
      cases hp : isErr x
      · rw [if_neg (by rw [hp]; simp)] at hst
        have HT := Lib.hid hst
        rw [hp] at HF
        clear hst hp
        go_wp2_with fail
        with_reducible refine (HF.out _).mono ?_
        rintro e w2 ⟨⟨k, rfl⟩, hb2⟩
        go_wp2_with fail
        go_roundw
        case rel => exact ⟨i + 1, by omega, by go_num, by rw [HT.out]; rfl, hbw.trans (hb2.mono hws)⟩
        case measure => simp [intOf]; omega
      · rw [if_pos hp] at hst
        have HT := Lib.hid hst
        rw [hp] at HF
        clear hst hp
        go_wp2_with fail
        with_reducible refine (HF.out _).mono ?_
        rintro e w2 ⟨⟨k, rfl⟩, hb2⟩
        go_wp2_with fail
        go_roundw
        case rel => exact ⟨i + 1, by omega, by go_num, by rw [HT.out]; go_num, hbw.trans (hb2.mono hws)⟩
        case measure => simp [intOf]; omega
    · obtain rfl : i = l.length := by omega
      go_wp2_with fail
      go_ret
      exact ⟨by simp, hbw⟩

theorem diff_app (k m : List Ev) {j : Nat} (h : j + 1 < k.length) : diff (k ++ m) j = diff k j := by
  unfold diff
  rw [List.getElem?_append_left (by omega), List.getElem?_append_left h]
theorem gapM_app (k m : List Ev) : ∀ {n : Nat}, n < k.length → gapM (k ++ m) n = gapM k n := by
  intro n
  induction n with
  | zero => intro _; rfl
  | succ n ih =>
    intro h
    show max (gapM (k ++ m) n) (diff (k ++ m) n) = max (gapM k n) (diff k n)
    rw [ih (by omega), diff_app k m h]
def gapE (k : List Ev) : Int := gapM k (k.length - 1)
theorem gapE_one (x : Ev) : gapE [x] = 0 := rfl
theorem gapE_snoc {k : List Ev} {x y : Ev} (h : k.getLast? = some y) : gapE (k ++ [x]) = max (gapE k) (IntKind.u64.wrap (x.2.2.2 - y.2.2.2)) := by
  have hk : 0 < k.length := by
    rcases k with _ | ⟨z, r⟩
    · simp at h
    · simp
  rw [List.getLast?_eq_getElem?] at h
  unfold gapE
  rw [List.length_append, show k.length + [x].length - 1 = k.length - 1 + 1 from by simp; omega]
  show max (gapM (k ++ [x]) (k.length - 1)) (diff (k ++ [x]) (k.length - 1)) = _
  rw [gapM_app k [x] (by omega), diff_at (a := y) (b := x) (by rw [List.getElem?_append_left (by omega)]; exact h) (by rw [show k.length - 1 + 1 = k.length by omega]; simp)]

set_option maxHeartbeats 4000000 in
theorem refGap_any (v : Value) (l : List Ev) (pid : Int) (w : World) (hv : Sl w true 4 v (evs l)) :
    Calls Try.prog 21 #[v, .int .i64 pid] w fun e w' => e = .returned (.int .u64 (gapM (ofP l pid) ((ofP l pid).length - 1))) ∧ Below w.heap.size w w' := by
  have HV := Lib.hid hv
  obtain ⟨a, cap, rfl, hl⟩ := hv.shape
  rw [evs_len] at hl HV ⊢
  rw [show gapM (ofP l pid) ((ofP l pid).length - 1) = gapE (ofP l pid) from rfl]
  clear hv
  go_enter Try.func21, Try.ntmps21
  go_wp2_with fail
  go_loopw [5, 6, 7, 8] (fun m la h t W => ∃ (i : Nat) (b : Bool) (z : Int), i ≤ l.length ∧ t = .int .i64 i ∧ h = .bool b ∧ la = .int .u64 z ∧ m = .int .u64 (gapE (ofP (l.take i) pid)) ∧ (b = false → ofP (l.take i) pid = []) ∧ (b = true → ∃ y : Ev, (ofP (l.take i) pid).getLast? = some y ∧ y.2.2.2 = z) ∧ Below w.heap.size w W) (fun _ _ _ t _ => l.length - (intOf t).toNat)
  case atStart => exact ⟨0, false, 0, Nat.zero_le _, rfl, rfl, rfl, rfl, fun _ => rfl, (by intro h; cases h), Below.refl _ _⟩
  case round =>
    obtain ⟨i, b, z, hi, rfl, rfl, rfl, rfl, hb0, hb1, hbw⟩ := hrel
    have hws := hbw.size
    have HB := Lib.hid (And.intro hb0 hb1)
    clear hb0 hb1
    by_cases hlt : i < l.length
    · obtain ⟨x, hx⟩ : ∃ x, l[i]? = some x := ⟨_, List.getElem?_eq_getElem hlt⟩
      obtain ⟨bk, off, rfl, hbk, c0, c1, c2, c3⟩ := Sl.ev (HV.out.below hbw) hx
      have hst := filter_take_step hx (fun x => decide (x.1 = pid))
      change ofP (l.take (i + 1)) pid = ofP (l.take i) pid ++ _ at hst
      have hwr : IntKind.i64.wrap ((i : Int) + 1) = i + 1 := IntWalk.i64_in _ (by omega)
      clear hx
      by_cases hp : x.1 = pid
      · rw [if_pos (by simpa using hp)] at hst
        have hpb : (x.1 != pid) = false := by simpa using hp
        clear hp
        generalize ofP (l.take i) pid = k at *
        cases b
        · have hk := HB.out.1 rfl
          subst hk
          have HT := Lib.hid (show ofP (l.take (i + 1)) pid = [x] from hst)
          clear hst HB
          rw [show gapE [] = 0 from rfl]
          go_wp2_with fail
          go_roundw
          case rel => exact ⟨i + 1, true, x.2.2.2, by omega, by go_num, rfl, rfl, by rw [HT.out]; rfl, (by intro h; cases h), (by intro _; rw [HT.out]; exact ⟨x, rfl, rfl⟩), hbw⟩
          case measure => simp [intOf]; omega
        · obtain ⟨y, hy, rfl⟩ := HB.out.2 rfl
          have hge := gapE_snoc (x := x) hy
          rw [← hst] at hge
          have HT := Lib.hid hst
          have HG := Lib.hid hge
          clear hst HB hge hy
          by_cases hc : gapE k < IntKind.u64.wrap (x.2.2.2 - y.2.2.2)
          · go_wp2_with fail
            go_roundw
            case rel =>
              refine ⟨i + 1, true, x.2.2.2, by omega, by go_num, rfl, rfl, ?_, (by intro h; cases h), (by intro _; rw [HT.out]; exact ⟨x, by simp, rfl⟩), hbw⟩
              rw [HG.out]
              exact congrArg (Value.int .u64) (by omega)
            case measure => simp [intOf]; omega
          · go_wp2_with fail
            go_roundw
            case rel =>
              refine ⟨i + 1, true, x.2.2.2, by omega, by go_num, rfl, rfl, ?_, (by intro h; cases h), (by intro _; rw [HT.out]; exact ⟨x, by simp, rfl⟩), hbw⟩
              rw [HG.out]
              exact congrArg (Value.int .u64) (by omega)
            case measure => simp [intOf]; omega
      · rw [if_neg (by simpa using hp), List.append_nil] at hst
        have HT := Lib.hid hst
        have hp1 : (x.1 != pid) = true := by simpa using hp
        clear hst
        go_wp2_with fail
        go_roundw
        case rel => exact ⟨i + 1, b, z, by omega, by go_num, rfl, rfl, by rw [HT.out], (by rw [HT.out]; exact HB.out.1), (by rw [HT.out]; exact HB.out.2), hbw⟩
        case measure => simp [intOf]; omega
    · obtain rfl : i = l.length := by omega
      go_wp2_with fail
      go_ret
      exact ⟨by simp, hbw⟩
end Go.Proofs.Ytnjhnkbjbkbnoaa
