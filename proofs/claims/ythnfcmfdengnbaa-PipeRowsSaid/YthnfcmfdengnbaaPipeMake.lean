/- Rows of pipes: pipe.Make, the reference's Make, Same. Conditions: what came in is shaped. -/
import Derived.Test.YthnfcmfdengnbaaPipeRef2
import Derived.Test.YthnfcmfdengnbaaLib4
import Derived.RegionTactic
import Derived.BigRegion
namespace Go.Proofs.Ythnfcmfdengnbaa
open Go Go.RowKit Go.Tm
set_option linter.unusedVariables false
set_option linter.unusedSimpArgs false


theorem ty_pipe : Ty Try.prog 26 3 true := ⟨by kernel_rfl, by kernel_rfl, by decide, by kernel_rfl⟩


set_option maxHeartbeats 1000000 in
theorem indexFunc_pipe (v : Value) (xs : List Value) (fid : FuncId) (caps : Array Value) (p : Value → Bool) (w : World) (hsl : Sl w true 3 v xs) (hp : Pred Try.prog w none fid caps p xs) :
    Calls Try.prog 25 #[v, .func (.func fid) #[] caps] w fun e w' => e = .returned (.int .i64 (idx p xs)) ∧ Below w.heap.size w w' := by
  obtain ⟨hsz, a, cap, rfl, hl, hm, hform⟩ := hsl
  unfold maxLen at hm
  have hlen : xs.length ≤ 9223372036854775807 := by omega
  go_enter Try.func25, Try.ntmps25
  go_wp2_with fail
  go_loopw [8] (fun t wr => ∃ i : Nat, i ≤ xs.length ∧ t = .int .i64 i ∧ Below w.heap.size w wr ∧ ∀ j y, j < i → xs[j]? = some y → p y = false) (fun t _ => xs.length - (intOf t).toNat)
  case atStart => exact ⟨0, Nat.zero_le _, rfl, Below.refl _ _, by intro j y h; omega⟩
  case round =>
    obtain ⟨i, hi, rfl, hbw, hprev⟩ := hrel
    have HP := Lib.hid hprev
    clear hprev
    by_cases hlt : i < xs.length
    · obtain ⟨x, hx⟩ : ∃ x, xs[i]? = some x := ⟨_, List.getElem?_eq_getElem hlt⟩
      have hmem : x ∈ xs := List.mem_of_getElem? hx
      have HV := Lib.hid (hsz _ hmem)
      obtain ⟨b, off, rfl, hb, hcell⟩ : ∃ b off, a = some ⟨b, off, none⟩ ∧ b < w.heap.size ∧ Cells wr b (off + i * 3) x.cells.toList := by
        rcases hform with h0 | ⟨b, off, ha, hb, hc⟩
        · subst h0; simp at hlt
        · exact ⟨b, off, ha, hb, (hc i _ hx).below hbw hb⟩
      have HX := Lib.hid hx
      have HCE := Lib.hid hcell
      clear hx hcell hform hsz
      have hcall := hp.asks wr (grown_of_below hbw none) _ hmem
      have hbody := hp.body
      unfold Body at hbody
      have HC := Lib.hid hcall
      clear hcall hp
      cases hpx : p x
      · have HPX := Lib.hid hpx
        rw [hpx] at HC
        clear hpx
        go_wp2_with (first | (refine wpList_load_val rfl 26 _ rfl b (off + i * 3) (by simp [Act.eval]) x ty_pipe HV.out HCE.out ?_) | fail)
        refine HC.out.mono ?_
        rintro e w1 ⟨rfl, hb1⟩
        go_wp2_with fail
        go_roundw
        case rel =>
          refine ⟨i + 1, by omega, by go_num, hbw.trans (hb1.mono hbw.size), ?_⟩
          intro j y hj hy
          rcases Nat.lt_succ_iff_lt_or_eq.1 hj with hj | rfl
          · exact HP.out j y hj hy
          · rw [HX.out] at hy; cases hy; exact HPX.out
        case measure => simp [intOf]; omega
      · have HPX := Lib.hid hpx
        rw [hpx] at HC
        clear hpx
        go_wp2_with (first | (refine wpList_load_val rfl 26 _ rfl b (off + i * 3) (by simp [Act.eval]) x ty_pipe HV.out HCE.out ?_) | fail)
        refine HC.out.mono ?_
        rintro e w1 ⟨rfl, hb1⟩
        go_wp2_with fail
        go_ret
        exact ⟨by rw [idx_some HX.out HPX.out HP.out]; rfl, hbw.trans (hb1.mono hbw.size)⟩
    · go_wp2_with fail
      go_ret
      refine ⟨?_, hbw⟩
      rw [idx_none ?_]; · rfl
      intro x hx
      obtain ⟨j, hj, hxj⟩ := List.getElem_of_mem hx
      exact HP.out j x (by omega) (by rw [← hxj]; exact List.getElem?_eq_getElem hj)


theorem info_pipe : (Try.prog.info? 26).map (fun i => (i.zero, i.size, i.bytes)) = some (some (.agg #[.string ⟨#[]⟩, .int .i64 0, .int .i64 0]), 3, 32) := by kernel_rfl

set_option maxHeartbeats 1000000 in
theorem clone_pipe (v : Value) (xs : List Value) (w : World) (hsl : Sl w true 3 v xs) (hbytes : xs.length * 32 ≤ 140737488355328) :
    Calls Try.prog 24 #[v] w fun e w' => ∃ v', e = .returned v' ∧ Owned w' w.heap.size 26 true 3 v' xs ∧ Below w.heap.size w w' := by
  have hsl0 := Lib.hid hsl
  obtain ⟨hsz, a, cap, rfl, hl, hm, hform⟩ := hsl
  have hlen : xs.length ≤ maxLen := by omega
  cases a with
  | none =>
    have h0 : xs = [] := by
      rcases hform with h0 | ⟨b, off, hb, _⟩
      · exact h0
      · cases hb
    subst h0
    have hnil := fun (n c : Nat) (w : World) => run_eql_slice_none Try.prog (t := 49) (n := n) (c := c) Try.underlying49 w
    clear hform hsz hl hm hlen
    go_enter Try.func24, Try.ntmps24
    go_wp2_with fail
    go_ret
    exact ⟨_, rfl, ⟨World.ownsRow_nil _ _ _ _, by simp⟩, Below.refl _ _⟩
  | some a =>
    have hnil := fun (n c : Nat) (w : World) => run_eql_slice_some Try.prog (t := 49) (a := a) (n := n) (c := c) Try.underlying49 w
    obtain ⟨i0, hi, hz0, hz1, hz2⟩ := info_parts info_pipe
    have HI := Lib.hid hi
    have HZ := Lib.hid (And.intro hz0 (And.intro hz1 hz2))
    have HS := Lib.hid hsz
    clear hi hz0 hz1 hz2 hform hl hm hsz
    go_enter Try.func24, Try.ntmps24
    go_wp2_with (first | (refine wpList_append_own _ rfl _ _ 49 rfl w.heap.size 26 i0 (.agg #[.string ⟨#[]⟩, .int .i64 0, .int .i64 0]) 3 32 Try.underlying49 HI.out HZ.out.1 HZ.out.2.1 HZ.out.2.2 rfl (by decide) (.slice (some ⟨w.heap.size, 0, none⟩) 0 0) 0 [] (by simp [Act.eval]) (World.ownsRow_made w #[] 0 (Nat.le_refl _) (Nat.zero_le _) rfl) a xs.length cap (flat xs) (by simp [Act.eval]) ?c1 ?c2 ?c3 ?c4 ?c5 ?c6 ?_) | fail)
    case c1 => exact flat_len HS.out
    case c2 => exact (hsl0.out.below ((Below.refl _ _).alloc (Nat.le_refl _) _)).news
    case c3 => exact flat_one HS.out
    case c4 => omega
    case c5 => omega
    case c6 => simp
    intro v' w1 hown hgrow _
    try simp only [Nat.zero_add, List.nil_append] at hown
    have HO := Lib.hid hown
    have HG := Lib.hid hgrow
    clear hown hgrow
    go_wp2_with fail
    go_ret
    exact ⟨_, rfl, ⟨HO.out, HS.out⟩, ((Below.refl _ _).alloc (Nat.le_refl _) _).grown HG.out (by simp) (by intro k hk; simp [Value.ownBlock] at hk; omega)⟩


/-- A pipe as a value. -/
def PipeV (x : Value) : Prop := ∃ (d : ByteArray) (r q : Int), x = .agg #[.string d, .int .i64 r, .int .i64 q] ∧ d.size ≤ 9223372036854775807 ∧ (Lit.int .i64 r).wf = true ∧ (Lit.int .i64 q).wf = true
def newV : Value := .agg #[.string ⟨#[]⟩, .int .i64 1, .int .i64 1]
/-- Nobody holds an end of it. -/
def freeV : Value → Bool
  | .agg a => (match a.toList with | [_, .int _ r, .int _ q] => decide (r ≤ 0) && decide (q ≤ 0) | _ => false)
  | _ => false
theorem newV_pipe : PipeV newV := ⟨⟨#[]⟩, 1, 1, rfl, by decide, rfl, rfl⟩
theorem PipeV.val {x : Value} (h : PipeV x) : Val true 3 x := by
  obtain ⟨d, r, q, rfl, _⟩ := h
  exact ⟨_, rfl, rfl, by intro c hc; simp at hc; rcases hc with rfl | rfl | rfl <;> rfl⟩

theorem make1_body : Body Try.prog 26 := body_of Try.func26 (by kernel_rfl) (by kernel_rfl)
theorem make1_any (d : ByteArray) (r q : Int) (w : World) : Calls Try.prog 26 #[.agg #[.string d, .int .i64 r, .int .i64 q]] w fun e w' => e = .returned (.bool (freeV (.agg #[.string d, .int .i64 r, .int .i64 q]))) ∧ Below w.heap.size w w' := by
  have hf : freeV (.agg #[.string d, .int .i64 r, .int .i64 q]) = (decide (r ≤ 0) && decide (q ≤ 0)) := rfl
  rw [hf]
  clear hf
  by_cases hr : r ≤ 0 <;> by_cases hq : q ≤ 0
  all_goals
    go_enter Try.func26, Try.ntmps26
    go_wp2_with fail
    go_ret
    exact ⟨by simp [hr, hq], by (repeat (first | with_reducible exact Below.refl _ _ | with_reducible refine Below.setCell ?_ ?_ _ | with_reducible refine Below.alloc ?_ ?_ _ | with_reducible refine below_drewN' ?_ _ | with_reducible refine Below.drew ?_ | with_reducible refine Below.trans ?_ (Below.mono (by assumption) ?_) | omega | (dsimp only; omega) | (simp only [drew_heap', drewN_heap', World.size_alloc, World.size_setCell]; omega) | (solve | simp) | (solve | (simp; omega))))⟩
theorem free_pred (xs : List Value) (hx : ∀ x ∈ xs, PipeV x) (w : World) : Pred Try.prog w none 26 #[] freeV xs :=
  ⟨make1_body, fun w' _ x hm => by
    obtain ⟨d, r, q, rfl, _⟩ := hx x hm
    exact make1_any d r q w'⟩

/-- What Make answers. -/
def makeS (xs : List Value) : List Value × Int × Int :=
  if idx freeV xs < 0 then (if 4 ≤ xs.length then (xs, 0, 5) else (xs ++ [newV], xs.length + 1, 0)) else (xs.set (idx freeV xs).toNat newV, idx freeV xs + 1, 0)

set_option maxHeartbeats 4000000 in
theorem make_any (v : Value) (xs : List Value) (w : World) (hsl : Sl w true 3 v xs) (hx : ∀ x ∈ xs, PipeV x) (hby : xs.length * 32 ≤ 140737488355328) :
    Calls Try.prog 20 #[v] w fun e w' => ∃ v', e = .returned (.tuple #[v', .int .i64 (makeS xs).2.1, .int .i64 (makeS xs).2.2]) ∧ Sl w' true 3 v' (makeS xs).1 ∧ Below w.heap.size w w' := by
  have hIdx := indexFunc_pipe v xs 26 #[] freeV w hsl (free_pred xs hx w)
  have hCl := fun W h => clone_pipe v xs W h hby
  have hsl0 := Lib.hid hsl
  obtain ⟨hsz, a, cap, rfl, hl, hm, hform⟩ := hsl
  unfold maxLen at hm
  have HM := Lib.hid hform
  clear hform
  unfold makeS
  have hidx : idx freeV xs = -1 ∨ ∃ i x : Nat, idx freeV xs = (i : Int) ∧ i < xs.length := by
    unfold idx
    cases h : xs.findIdx? freeV with
    | none => exact .inl rfl
    | some i => exact .inr ⟨i, 0, rfl, by rw [List.findIdx?_eq_some_iff_getElem] at h; exact h.1⟩
  have HX := Lib.hid hx
  clear hx
  generalize idx freeV xs = ii at *
  rcases hidx with rfl | ⟨i, _, rfl, hi⟩
  · by_cases h4 : 4 ≤ xs.length
    · have h4' : (4 : Int) ≤ xs.length := by omega
      rw [if_pos (by decide), if_pos h4]
      go_enter Try.func20, Try.ntmps20
      go_wp2_with fail
      refine hIdx.mono ?_
      rintro e w1 ⟨rfl, hb1⟩
      go_wp2_with fail
      exact bodyPost_ret (v := .tuple #[.slice a xs.length cap, .int .i64 0, .int .i64 5]) (by simp [results, Try.results20, go_sem]) rfl ⟨_, rfl, hsl0.out.below hb1, by (repeat (first | with_reducible exact Below.refl _ _ | with_reducible refine Below.setCell ?_ ?_ _ | with_reducible refine Below.alloc ?_ ?_ _ | with_reducible refine below_drewN' ?_ _ | with_reducible refine Below.drew ?_ | with_reducible refine Below.trans ?_ (Below.mono (by assumption) ?_) | omega | (dsimp only; omega) | (simp only [drew_heap', drewN_heap', World.size_alloc, World.size_setCell]; omega) | (solve | simp) | (solve | (simp; omega))))⟩
    · have h4' : ¬ (4 : Int) ≤ xs.length := by omega
      rw [if_pos (by decide), if_neg h4]
      obtain ⟨i0, hi0, hq0, hq1, hq2⟩ := info_parts info_pipe
      have HI := Lib.hid (And.intro hi0 (And.intro hq0 (And.intro hq1 hq2)))
      clear hi0 hq0 hq1 hq2
      go_enter Try.func20, Try.ntmps20
      go_wp2_with fail
      refine hIdx.mono ?_
      rintro e w1 ⟨rfl, hb1⟩
      have hz1 := hb1.size
      go_wp2_with fail
      refine (hCl w1 (hsl0.out.below hb1)).mono ?_
      rintro e w2 ⟨v2, rfl, ho2, hb2⟩
      have hz2 := hb2.size
      have HO := Lib.hid ho2
      obtain ⟨_, a2, cap2, rfl, hl2, hm2, _⟩ := ho2.sl
      clear ho2
      go_wp2_with (first | (refine wpList_append_sl (v := .slice a2 xs.length cap2) (xs := xs) (base := w1.heap.size) rfl _ _ 49 rfl ty_pipe i0 (.agg #[.string ⟨#[]⟩, .int .i64 0, .int .i64 0]) 32 Try.underlying49 HI.out.1 HI.out.2.1 HI.out.2.2.1 HI.out.2.2.2 rfl ?hs ?hown (.slice (some ⟨w2.heap.size, 0, none⟩) 1 1) [.agg #[.string ⟨#[]⟩, .int .i64 0, .int .i64 0]] ?hx ?hsl ?c63 ?cby ?cba ?ck) | fail)
      case hs => simp [Act.eval]
      case hx => simp [Act.eval]
      case hown => exact HO.out.kept (by (repeat (first | with_reducible exact Below.refl _ _ | with_reducible refine Below.setCell ?_ ?_ _ | with_reducible refine Below.alloc ?_ ?_ _ | with_reducible refine below_drewN' ?_ _ | with_reducible refine Below.drew ?_ | with_reducible refine Below.trans ?_ (Below.mono (by assumption) ?_) | omega | (dsimp only; omega) | (simp only [drew_heap', drewN_heap', World.size_alloc, World.size_setCell]; omega) | (solve | simp) | (solve | (simp; omega)))))
      case hsl => exact (Owned.made1 (base := w2.heap.size) (PipeV.val ⟨⟨#[]⟩, 0, 0, rfl, by decide, rfl, rfl⟩) (Nat.le_refl _)).sl
      case c63 => simp only [List.length_singleton, maxLen]; omega
      case cby => simp only [List.length_singleton]; omega
      case cba => simp only [World.size_alloc]; omega
      case ck =>
      intro v3 w3 ho3 hg3 g cap3 hv3
      subst hv3
      have hb3 : Below w.heap.size w w3 := (HO.out.kept (by (repeat (first | with_reducible exact Below.refl _ _ | with_reducible refine Below.setCell ?_ ?_ _ | with_reducible refine Below.alloc ?_ ?_ _ | with_reducible refine below_drewN' ?_ _ | with_reducible refine Below.drew ?_ | with_reducible refine Below.trans ?_ (Below.mono (by assumption) ?_) | omega | (dsimp only; omega) | (simp only [drew_heap', drewN_heap', World.size_alloc, World.size_setCell]; omega) | (solve | simp) | (solve | (simp; omega)))))).below hg3 (by (repeat (first | with_reducible exact Below.refl _ _ | with_reducible refine Below.setCell ?_ ?_ _ | with_reducible refine Below.alloc ?_ ?_ _ | with_reducible refine below_drewN' ?_ _ | with_reducible refine Below.drew ?_ | with_reducible refine Below.trans ?_ (Below.mono (by assumption) ?_) | omega | (dsimp only; omega) | (simp only [drew_heap', drewN_heap', World.size_alloc, World.size_setCell]; omega) | (solve | simp) | (solve | (simp; omega))))) (by omega) (by simp only [World.size_alloc]; omega)
      clear hg3
      have HO3 := Lib.hid ho3
      clear ho3
      have hz3 := hb3.size
      go_wp2_with (first | (refine wpList_store_own (base := w1.heap.size) rfl _ _ rfl ty_pipe g (xs.length + 1) cap3 HO3.out xs.length ?d1 ?d2 newV ?d3 newV_pipe.val ?d4) | fail)
      case d1 => simp
      case d2 => simp [Act.eval]
      case d3 => simp [Act.eval, newV]
      case d4 =>
      intro w4 ho4 hg4
      have hb4 : Below w.heap.size w w4 := HO3.out.below hg4 hb3 (by omega) (by omega)
      have hset : (xs ++ [Value.agg #[Value.string ⟨#[]⟩, .int .i64 0, .int .i64 0]]).set xs.length newV = xs ++ [newV] := by simp
      try rw [hset] at ho4
      have HO4 := Lib.hid ho4
      clear ho4 hg4 hset
      go_wp2_with fail
      exact bodyPost_ret (v := .tuple #[.slice (some ⟨g, 0, none⟩) (xs.length + 1) cap3, .int .i64 (xs.length + 1), .int .i64 0]) (by simp [results, Try.results20, go_sem]) rfl ⟨_, rfl, HO4.out.sl, hb4⟩
  · have hn1 : ¬ (i : Int) < 0 := by omega
    have hn2 : ((i : Int) == xs.length) = false := by simpa using (by omega : ¬ (i : Int) = xs.length)
    have hwr : IntKind.i64.wrap ((i : Int) + 1) = i + 1 := IntWalk.i64_in _ (by omega)
    rw [if_neg hn1]
    go_enter Try.func20, Try.ntmps20
    go_wp2_with fail
    refine hIdx.mono ?_
    rintro e w1 ⟨rfl, hb1⟩
    have hz1 := hb1.size
    go_wp2_with fail
    refine (hCl w1 (hsl0.out.below hb1)).mono ?_
    rintro e w2 ⟨v2, rfl, ho2, hb2⟩
    have hz2 := hb2.size
    have HO := Lib.hid ho2
    obtain ⟨g, cap2, rfl, hl2, hm2, hbg, hgw, hfz, hc2⟩ := ho2.form (by omega)
    clear ho2 hc2
    go_wp2_with (first | (refine wpList_store_own (base := w1.heap.size) rfl _ _ rfl ty_pipe g xs.length cap2 HO.out i ?d1 ?d2 newV ?d3 newV_pipe.val ?d4) | fail)
    case d1 => exact hi
    case d2 => simp [Act.eval]
    case d3 => simp [Act.eval, newV]
    case d4 =>
    intro w4 ho4 hg4
    have hb4 : Below w.heap.size w w4 := HO.out.below hg4 (by (repeat (first | with_reducible exact Below.refl _ _ | with_reducible refine Below.setCell ?_ ?_ _ | with_reducible refine Below.alloc ?_ ?_ _ | with_reducible refine below_drewN' ?_ _ | with_reducible refine Below.drew ?_ | with_reducible refine Below.trans ?_ (Below.mono (by assumption) ?_) | omega | (dsimp only; omega) | (simp only [drew_heap', drewN_heap', World.size_alloc, World.size_setCell]; omega) | (solve | simp) | (solve | (simp; omega))))) (by omega) (by omega)
    have HO4 := Lib.hid ho4
    clear ho4 hg4
    go_wp2_with fail
    exact bodyPost_ret (v := .tuple #[.slice (some ⟨g, 0, none⟩) xs.length cap2, .int .i64 (i + 1), .int .i64 0]) (by simp [results, Try.results20, go_sem]) rfl ⟨_, rfl, HO4.out.sl, hb4⟩
end Go.Proofs.Ythnfcmfdengnbaa
