/- The law WindowGrants: its walk. Conditions: what came in is shaped. -/
import Derived.Test.YtinhnecgmokfkaaWinShown
import Derived.Test.YtinhnecgmokfkaaWinPure3
namespace Go.Proofs.Ytinhnecgmokfkaa
open Go Go.RowKit Go.Tm
set_option linter.unusedVariables false
set_option linter.unusedSimpArgs false

set_option maxHeartbeats 16000000 in
theorem windowGrants_walk (pv wv cv : Value) (p : Pln) (sched i0 t : Int) (w : World) (hp : PlanIs w pv wv cv p) (ht : 0 ≤ t) (ht2 : t ≤ 18446744073709551615) (hf : p.frame ≤ 9223372036854775807) :
    Calls Try.prog 9 #[.agg #[pv, .int .i64 p.frame, wv, cv, .int .i64 sched, .int .i64 i0, .int .u64 t]] w fun e w' => e = .returned (.bool true) ∧ Below w.heap.size w w' := by
  have HP := Lib.hid hp
  have KC := Lib.hid (fun W (h : PlanIs W pv wv cv p) => refCheck_any pv wv cv p W h)
  have KS := Lib.hid (fun (t' : Int) (h' : 0 ≤ t') W (h : PlanIs W pv wv cv p) => starts_any pv wv cv p sched t' W h h' hf)
  have KG := Lib.hid (fun (t' : Int) (h' : 0 ≤ t') (h'' : t' ≤ 18446744073709551615) part W (h : PlanIs W pv wv cv p) => granted_any pv wv cv p sched part t' W h h' h'' hf)
  have KW := Lib.hid (fun (x : Wn) (h1 : 1 ≤ p.frame) (h2 : x ∈ winsOf p sched) => grant_win (p := p) (sched := sched) ht h1 h2)
  have KB := Lib.hid (fun (x : Wn) (h1 : 1 ≤ p.frame) (h2 : x ∈ winsOf p sched) => start_win (p := p) (sched := sched) ht h1 h2)
  have KR := Lib.hid (fun (t' : Int) (h' : 0 ≤ t') part => grant_range (p := p) (sched := sched) (part := part) h')
  obtain ⟨a1, k1, a2, k2, a3, k3, rfl, rfl, rfl, hl1, hl2, hl3⟩ := hp.shape
  clear hp
  go_enter Try.func9, Try.ntmps9
  go_wp2_with fail
  have hbx0 : Box ((w.alloc (.cells #[.slice a1 p.parts.length k1, .int .i64 p.frame, .slice a2 p.wins.length k2, .slice a3 p.chans.length k3, .int .i64 sched, .int .i64 i0, .int .u64 t] 45)).alloc (.cells #[.slice a1 p.parts.length k1, .int .i64 p.frame, .slice a2 p.wins.length k2, .slice a3 p.chans.length k3] 26)) (w.heap.size + 1) #[.slice a1 p.parts.length k1, .int .i64 p.frame, .slice a2 p.wins.length k2, .slice a3 p.chans.length k3] 26 := (Box.new1 _ _ _ (by simp))
  have hx0 : Below w.heap.size w ((w.alloc (.cells #[.slice a1 p.parts.length k1, .int .i64 p.frame, .slice a2 p.wins.length k2, .slice a3 p.chans.length k3, .int .i64 sched, .int .i64 i0, .int .u64 t] 45)).alloc (.cells #[.slice a1 p.parts.length k1, .int .i64 p.frame, .slice a2 p.wins.length k2, .slice a3 p.chans.length k3] 26)) := (((Below.refl _ _).alloc (Nat.le_refl _) _).alloc (by simp <;> omega) _)
  generalize hW0 : ((w.alloc (.cells #[.slice a1 p.parts.length k1, .int .i64 p.frame, .slice a2 p.wins.length k2, .slice a3 p.chans.length k3, .int .i64 sched, .int .i64 i0, .int .u64 t] 45)).alloc (.cells #[.slice a1 p.parts.length k1, .int .i64 p.frame, .slice a2 p.wins.length k2, .slice a3 p.chans.length k3] 26)) = w0 at *
  clear hW0
  with_reducible refine (shown_any _).mono ?_
  rintro e w1 ⟨rfl, hb⟩
  have hx1 := hx0.trans (hb.mono hx0.size)
  have hbx1 := hbx0.below hb hbx0.lt
  clear hb
  obtain ⟨c1, f1, l1, n1, m1⟩ := hbx1.rules
  go_wp2_with fail
  with_reducible refine (KC.out _ (HP.out.below hx1)).mono ?_
  rintro e w2 ⟨⟨k, rfl, hk⟩, hb⟩
  have hx2 := hx1.trans (hb.mono hx1.size)
  have hbx2 := hbx1.below hb hbx1.lt
  clear hb c1 f1 l1 n1 m1
  obtain ⟨c1, f1, l1, n1, m1⟩ := hbx2.rules
  by_cases hpk : PlanOk p
  case neg =>
    have hk0 : (k != 0) = true := by simp; exact fun e => hpk (hk.1 e)
    clear hk
    go_wp2_with fail
    go_ret
    exact ⟨rfl, hx2⟩
  obtain rfl : k = 0 := hk.2 hpk
  clear hk
  by_cases hs0 : sched < 0
  case pos =>
    have hs0d : decide (sched < 0) = true := by simpa using hs0
    go_wp2_with fail
    go_ret
    exact ⟨rfl, hx2⟩
  have hs0d : decide (sched < 0) = false := by simpa using hs0
  by_cases hs1 : (p.wins.length : Int) ≤ sched
  case pos =>
    have hs1d : decide ((p.wins.length : Int) ≤ sched) = true := by simpa using hs1
    go_wp2_with fail
    go_ret
    exact ⟨rfl, hx2⟩
  have hs1d : decide ((p.wins.length : Int) ≤ sched) = false := by simpa using hs1
  obtain ⟨s, rfl⟩ : ∃ s : Nat, sched = s := ⟨sched.toNat, by omega⟩
  have hs1n : decide (p.wins.length ≤ s) = false := by simp; omega
  obtain ⟨l, hl⟩ : ∃ l, p.wins[s]? = some l := ⟨_, List.getElem?_eq_getElem (by omega)⟩
  have hzl : winsOf p s = l := winsOf_at hpk (by omega) (by omega) (by simpa using hl)
  obtain ⟨b, off, a5, c5, rfl, hb, hcell0, hll, hsl⟩ := WinsIs.at HP.out.wins hl
  have hcell := (hx2.cell (p := ⟨b, off + s, none⟩) hb).trans hcell0
  have hbw2 : b < w2.heap.size := Nat.lt_of_lt_of_le hb hx2.size
  have HSL := Lib.hid (hsl.below hx2)
  clear hl hsl hcell0
  by_cases hi0 : i0 < 0
  case pos =>
    have hi0d : decide (i0 < 0) = true := by simpa using hi0
    go_wp2_with fail
    go_ret
    exact ⟨rfl, hx2⟩
  have hi0d : decide (i0 < 0) = false := by simpa using hi0
  by_cases hi1 : (l.length : Int) ≤ i0
  case pos =>
    have hi1d : decide ((l.length : Int) ≤ i0) = true := by simpa using hi1
    go_wp2_with fail
    go_ret
    exact ⟨rfl, hx2⟩
  have hi1d : decide ((l.length : Int) ≤ i0) = false := by simpa using hi1
  by_cases h62 : 4611686018427387904 < t
  case pos =>
    have h62d : decide (4611686018427387904 < t) = true := by simpa using h62
    go_wp2_with fail
    go_ret
    exact ⟨rfl, hx2⟩
  have h62d : decide (4611686018427387904 < t) = false := by simpa using h62
  obtain ⟨i, rfl⟩ : ∃ i : Nat, i0 = i := ⟨i0.toNat, by omega⟩
  have hi1n : decide (l.length ≤ i) = false := by simp; omega
  obtain ⟨⟨xp, xf, xl⟩, hx⟩ : ∃ x, l[i]? = some x := ⟨_, List.getElem?_eq_getElem (by omega)⟩
  have hfr1 := hpk.frame1
  have hfr2 := hpk.frame4096
  have hp4 := hpk.parts4
  have hmem : (xp, xf, xl) ∈ winsOf p s := by rw [hzl]; exact List.mem_of_getElem? hx
  have hwo := (winsOf_ok _ hmem).2
  unfold WinOk at hwo
  dsimp only at hwo
  have KW2 := Lib.hid (KW.out _ hfr1 hmem)
  have hstr := KB.out _ hfr1 hmem
  dsimp only at hstr
  have KWd := KW2.out
  dsimp only at KWd
  have KW3 := Lib.hid KWd
  have HSTR := Lib.hid hstr
  obtain ⟨b2, off2, rfl, hb2, q0, q1, q2⟩ := Sl.wn HSL.out hx
  dsimp only at q0 q1 q2
  clear hx hmem hzl KW2 KWd hstr KW KB
  have hm0 : 0 ≤ t % p.frame := Int.emod_nonneg t (by omega)
  have hm1 : t % p.frame ≤ t := by have := Int.mul_ediv_add_emod t p.frame; have := Int.mul_nonneg (show 0 ≤ p.frame by omega) (Int.ediv_nonneg ht (show 0 ≤ p.frame by omega)); omega
  have hw1 : IntKind.u64.wrap p.frame = p.frame := u64_small (by omega) (by omega)
  have hwx : IntKind.u64.wrap xf = xf := u64_small (by omega) (by omega)
  have hz : (p.frame == 0) = false := by simp; omega
  have hm : t.tmod p.frame = t % p.frame := Int.tmod_eq_emod_of_nonneg ht
  have hwm : IntKind.u64.wrap (t % p.frame) = t % p.frame := u64_small (by omega) (by omega)
  have hws1 : IntKind.u64.wrap (t - t % p.frame) = t - t % p.frame := u64_small (by omega) (by omega)
  have hws2 : IntKind.u64.wrap (t - t % p.frame + xf) = t - t % p.frame + xf := u64_small (by omega) (by omega)
  have hne1 : ¬ b = w2.heap.size := by omega
  have hne2 : ¬ b2 = w2.heap.size := by omega
  go_wp2_with fail
  have hbn := Box.new w2 (#[.int .i64 xp, .int .i64 xf, .int .i64 xl] : Array Value) 48
  have hb3 : Below w2.heap.size w2 (w2.alloc (.cells #[.int .i64 xp, .int .i64 xf, .int .i64 xl] 48)) := (Below.refl _ _).alloc (Nat.le_refl _) _
  have hx3 : Below w.heap.size w (w2.alloc (.cells #[.int .i64 xp, .int .i64 xf, .int .i64 xl] 48)) := hx2.alloc hx2.size _
  have hbx3 := hbx2.below hb3 hbx2.lt
  generalize hW3 : w2.alloc (.cells #[.int .i64 xp, .int .i64 xf, .int .i64 xl] 48) = w3 at *
  have g0 := hbn.regrown
  have g1 := hbx3.regrown
  clear hW3 c1 f1 l1 n1 m1 q0 q1 q2 hcell
  ((refine wp_region_quiet_below (by kernel_rfl) (by kernel_rfl) ?_); (repeat (go_big_quiet_step (fail))); (refine wpQuiet_nil ?_); (intro _ hw'); (obtain ⟨⟨dq, osq⟩, hw''⟩ := hw'); (subst hw''); (have hb4 := below_regrown w3 dq osq); (generalize Go.Sort.grow (redrawn w3 dq) osq = w4 at *); (have hz4 := hb4.size))
  clear g0 g1
  have hx4 := hx3.trans (hb4.mono hx3.size)
  have HBX := Lib.hid (hbx3.below hb4 hbx3.lt)
  have HBN := Lib.hid (hbn.below hb4 hbn.lt)
  clear hbx0 hbx1 hbx2 hbx3 hbn hb4 hz4 hb3
  generalize hT : t - t % p.frame + xf = T at *
  have hT0 : 0 ≤ T := by omega
  have hT1 : T ≤ 4611686018427387904 + 4096 := by omega
  have hwl : IntKind.u64.wrap xl = xl := u64_small (by omega) (by omega)
  have hwT : IntKind.u64.wrap (T + xl) = T + xl := u64_small (by omega) (by omega)
  have hwl2 : IntKind.i64.wrap (xl - 2) = xl - 2 := IntWalk.i64_in _ (by omega)
  have hwl3 : IntKind.u64.wrap (xl - 2) = xl - 2 := u64_small (by omega) (by omega)
  clear hT hm hws1 hws2 hwm hm0 hm1
  go_wp2_with fail
  go_loopw [10] (fun t' W => ∃ j : Nat, j ≤ p.parts.length ∧ t' = .int .i64 j ∧ Below w4.heap.size w4 W) (fun t' _ => p.parts.length - (intOf t').toNat)
  case atStart => exact ⟨0, Nat.zero_le _, rfl, Below.refl _ _⟩
  case round =>
    obtain ⟨j, hj, rfl, hbw⟩ := hrel
    have hws := hbw.size
    have hxw : Below w.heap.size w wr := hx4.trans (hbw.mono hx4.size)
    have hbx5 := HBX.out.below hbw HBX.out.lt
    have hbn5 := HBN.out.below hbw HBN.out.lt
    obtain ⟨c1, f1, l1, n1, m1⟩ := hbx5.rules
    have hwj : IntKind.i64.wrap ((j : Int) + 1) = j + 1 := IntWalk.i64_in _ (by omega)
    by_cases hlt : j < p.parts.length
    · have hgw := KW3.out (j : Int) xl.toNat (by omega)
      rw [show ((xl.toNat : Nat) : Int) = xl by omega, show max (0 : Int) (xl - 2) = xl - 2 by omega] at hgw
      have KG1 := KG.out (T + xl) (by omega) (by omega) (j : Int)
      have KG0 := KG.out T (by omega) (by omega) (j : Int)
      have hgr := KR.out T (by omega) (j : Int)
      rw [hgw] at KG1
      clear hgw
      generalize grantS p s j T = G at *
      have e1 : ∀ d : Int, G + d - G = d := fun d => by omega
      have E1 := Lib.hid e1
      have HG1 := Lib.hid KG1
      have HG0 := Lib.hid KG0
      clear KG1 KG0 e1
      have k0 := hbx5.regrown
      have k1' := hbn5.regrown
      by_cases hpx : (j : Int) = xp
      · rw [if_pos hpx] at HG1
        have hpb : ((j : Int) == xp) = true := by simpa using hpx
        have hpn : ((j : Int) != xp) = false := by simpa using hpx
        have hwd : IntKind.u64.wrap (G + (xl - 2) - G) = xl - 2 := by rw [E1.out]; exact hwl3
        have hneq : (xl - 2 != xl - 2) = false := by simp
        have HPX := Lib.hid hpx
        clear hpx
        have hC1 : ∀ dd os, Calls Try.prog 14 #[.agg #[.slice a1 p.parts.length k1, .int .i64 p.frame, .slice (some ⟨b, off, none⟩) p.wins.length k2, .slice a3 p.chans.length k3], .int .i64 s, .int .i64 j, .int .u64 (T + xl)] (Go.Sort.grow (redrawn wr dd) os) fun e w'' => e = .returned (.int .u64 (G + (xl - 2))) ∧ ∃ p : Regrown, w'' = Go.Sort.grow (redrawn wr p.d) p.os := fun dd os => Calls.regrown_of (HG1.out _ (HP.out.below (hxw.trans ((below_regrown wr dd os).mono hxw.size))))
        have C1 := Lib.hid hC1
        have hC0 : ∀ dd os, Calls Try.prog 14 #[.agg #[.slice a1 p.parts.length k1, .int .i64 p.frame, .slice (some ⟨b, off, none⟩) p.wins.length k2, .slice a3 p.chans.length k3], .int .i64 s, .int .i64 j, .int .u64 T] (Go.Sort.grow (redrawn wr dd) os) fun e w'' => e = .returned (.int .u64 G) ∧ ∃ p : Regrown, w'' = Go.Sort.grow (redrawn wr p.d) p.os := fun dd os => Calls.regrown_of (HG0.out _ (HP.out.below (hxw.trans ((below_regrown wr dd os).mono hxw.size))))
        have C0 := Lib.hid hC0
        clear hC1 hC0
        go_wp2_with fail
        ((refine wp_region_quiet_below (by kernel_rfl) (by kernel_rfl) ?_); (repeat (go_big_quiet_step ((go_at_call 14; with_reducible first | exact C1.out _ _ | exact C0.out _ _)))); (refine wpQuiet_nil ?_); (intro _ hw'); (obtain ⟨⟨dq, osq⟩, hw''⟩ := hw'); (subst hw''); (have hb7 := below_regrown wr dq osq); (generalize Go.Sort.grow (redrawn wr dq) osq = w7 at *); (have hz7 := hb7.size))
        clear k0 k1'
        have hbn7 := hbn5.below hb7 hbn5.lt
        obtain ⟨c2, f2, l2, n2, m2⟩ := hbn7.rules
        go_wp2_with fail
        exact ⟨⟨j + 1, by omega, by go_num, hbw.trans (hb7.mono hws)⟩, by simp [intOf]; omega⟩
      · rw [if_neg hpx] at HG1
        have hpb : ((j : Int) == xp) = false := by simpa using hpx
        have hpn : ((j : Int) != xp) = true := by simpa using hpx
        have hwd : IntKind.u64.wrap (G + 0 - G) = 0 := by rw [E1.out]; exact u64_small (by omega) (by omega)
        have hwd2 : IntKind.u64.wrap (G - G) = 0 := by rw [Int.sub_self]; exact u64_small (by omega) (by omega)
        rw [Int.add_zero] at HG1
        have HPX := Lib.hid hpx
        clear hpx
        have hC1 : ∀ dd os, Calls Try.prog 14 #[.agg #[.slice a1 p.parts.length k1, .int .i64 p.frame, .slice (some ⟨b, off, none⟩) p.wins.length k2, .slice a3 p.chans.length k3], .int .i64 s, .int .i64 j, .int .u64 (T + xl)] (Go.Sort.grow (redrawn wr dd) os) fun e w'' => e = .returned (.int .u64 G) ∧ ∃ p : Regrown, w'' = Go.Sort.grow (redrawn wr p.d) p.os := fun dd os => Calls.regrown_of (HG1.out _ (HP.out.below (hxw.trans ((below_regrown wr dd os).mono hxw.size))))
        have C1 := Lib.hid hC1
        have hC0 : ∀ dd os, Calls Try.prog 14 #[.agg #[.slice a1 p.parts.length k1, .int .i64 p.frame, .slice (some ⟨b, off, none⟩) p.wins.length k2, .slice a3 p.chans.length k3], .int .i64 s, .int .i64 j, .int .u64 T] (Go.Sort.grow (redrawn wr dd) os) fun e w'' => e = .returned (.int .u64 G) ∧ ∃ p : Regrown, w'' = Go.Sort.grow (redrawn wr p.d) p.os := fun dd os => Calls.regrown_of (HG0.out _ (HP.out.below (hxw.trans ((below_regrown wr dd os).mono hxw.size))))
        have C0 := Lib.hid hC0
        clear hC1 hC0
        go_wp2_with fail
        ((refine wp_region_quiet_below (by kernel_rfl) (by kernel_rfl) ?_); (repeat (go_big_quiet_step ((go_at_call 14; with_reducible first | exact C1.out _ _ | exact C0.out _ _)))); (refine wpQuiet_nil ?_); (intro _ hw'); (obtain ⟨⟨dq, osq⟩, hw''⟩ := hw'); (subst hw''); (have hb7 := below_regrown wr dq osq); (generalize Go.Sort.grow (redrawn wr dq) osq = w7 at *); (have hz7 := hb7.size))
        clear k0 k1'
        have hbn7 := hbn5.below hb7 hbn5.lt
        obtain ⟨c2, f2, l2, n2, m2⟩ := hbn7.rules
        go_wp2_with fail
        exact ⟨⟨j + 1, by omega, by go_num, hbw.trans (hb7.mono hws)⟩, by simp [intOf]; omega⟩
    · obtain rfl : j = p.parts.length := by omega
      have K2 := KS.out T hT0
      rw [HSTR.out] at K2
      have KS2 := Lib.hid K2
      clear K2
      go_wp2_with fail
      with_reducible refine (KS2.out _ (HP.out.below hxw)).mono ?_
      rintro e w8 ⟨rfl, hb⟩
      go_wp2_with fail
      go_ret
      exact ⟨by simp, hxw.trans (hb.mono hxw.size)⟩
end Go.Proofs.Ytinhnecgmokfkaa
