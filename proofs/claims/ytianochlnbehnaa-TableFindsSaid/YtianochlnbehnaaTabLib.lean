/- A process: its first three words, the other 23 cells; the library's functions on rows of processes. Conditions: lengths within the reach. -/
import Derived.Test.YtianochlnbehnaaRows
import Derived.Test.YtianochlnbehnaaChecked
import Derived.Test.YtianochlnbehnaaLib8
import Derived.Test.YtianochlnbehnaaQTail
import Derived.StillTail
import Derived.RegionTactic
import Derived.BigRegion
namespace Go.Proofs.Ytianochlnbehnaa
open Go Go.RowKit Go.Tm
set_option linter.unusedVariables false
set_option linter.unusedSimpArgs false

def restL (r0 r1 r2 r3 r4 r5 r6 r7 pc : Int) (mem : ByteArray) (code p0 : Int) (b0 : Bool) (p1 : Int) (b1 : Bool) (p2 : Int) (b2 : Bool) (p3 : Int) (b3 : Bool) (n a b c : Int) : List Value :=
  [.int .u32 r0, .int .u32 r1, .int .u32 r2, .int .u32 r3, .int .u32 r4, .int .u32 r5, .int .u32 r6, .int .u32 r7, .int .u32 pc, .string mem, .int .i64 code, .int .i64 p0, .bool b0, .int .i64 p1, .bool b1, .int .i64 p2, .bool b2, .int .i64 p3, .bool b3, .int .u32 n, .int .u32 a, .int .u32 b, .int .u32 c]
def restLit (r0 r1 r2 r3 r4 r5 r6 r7 pc : Int) (mem : ByteArray) (code p0 : Int) (b0 : Bool) (p1 : Int) (b1 : Bool) (p2 : Int) (b2 : Bool) (p3 : Int) (b3 : Bool) (n a b c : Int) : List Lit :=
  [.int .u32 r0, .int .u32 r1, .int .u32 r2, .int .u32 r3, .int .u32 r4, .int .u32 r5, .int .u32 r6, .int .u32 r7, .int .u32 pc, .string mem.data.toList, .int .i64 code, .int .i64 p0, .bool b0, .int .i64 p1, .bool b1, .int .i64 p2, .bool b2, .int .i64 p3, .bool b3, .int .u32 n, .int .u32 a, .int .u32 b, .int .u32 c]
/-- The other 23 cells are as the type says. -/
def RestOk (l : List Value) : Prop := ∃ r0 r1 r2 r3 r4 r5 r6 r7 pc mem code p0 b0 p1 b1 p2 b2 p3 b3 n a b c, l = restL r0 r1 r2 r3 r4 r5 r6 r7 pc mem code p0 b0 p1 b1 p2 b2 p3 b3 n a b c ∧ mem.size ≤ maxLen ∧
  (∀ x ∈ [r0, r1, r2, r3, r4, r5, r6, r7, pc, n, a, b, c], (Lit.int .u32 x).wf = true) ∧ ∀ x ∈ [code, p0, p1, p2, p3], (Lit.int .i64 x).wf = true
theorem RestOk.len {l : List Value} (h : RestOk l) : l.length = 23 := by
  obtain ⟨_, _, _, _, _, _, _, _, _, _, _, _, _, _, _, _, _, _, _, _, _, _, _, rfl, _⟩ := h; rfl
theorem RestOk.one {l : List Value} (h : RestOk l) : ∀ c ∈ l, c.oneCell' = true := by
  obtain ⟨_, _, _, _, _, _, _, _, _, _, _, _, _, _, _, _, _, _, _, _, _, _, _, rfl, _⟩ := h
  intro c hc
  simp only [restL, List.mem_cons, List.not_mem_nil, or_false] at hc
  rcases hc with rfl | rfl | rfl | rfl | rfl | rfl | rfl | rfl | rfl | rfl | rfl | rfl | rfl | rfl | rfl | rfl | rfl | rfl | rfl | rfl | rfl | rfl | rfl <;> rfl

/-- A process. -/
@[ext] structure Prc where
  pid : Int
  par : Int
  st : Int
  rest : List Value
  ok : RestOk rest
@[irreducible] def prC (p : Prc) : Array Value := (.int .i64 p.pid :: .int .i64 p.par :: .int .i64 p.st :: p.rest).toArray
abbrev prV (p : Prc) : Value := .agg (prC p)
abbrev prs (l : List Prc) : List Value := l.map prV
theorem prC_eq (p : Prc) : prC p = (.int .i64 p.pid :: .int .i64 p.par :: .int .i64 p.st :: p.rest).toArray := by unfold prC; rfl
theorem prC0 (p : Prc) : (prC p)[0]? = some (.int .i64 p.pid) := by simp [prC_eq]
theorem prC1 (p : Prc) : (prC p)[1]? = some (.int .i64 p.par) := by simp [prC_eq]
theorem prC2 (p : Prc) : (prC p)[2]? = some (.int .i64 p.st) := by simp [prC_eq]
theorem prC_size (p : Prc) : (prC p).size = 26 := by simp [prC_eq, p.ok.len]
theorem pr_val (p : Prc) : Val true 26 (prV p) := ⟨_, rfl, prC_size p, fun c hc => by
  rw [prC_eq, List.toList_toArray] at hc
  simp only [List.mem_cons] at hc
  rcases hc with rfl | rfl | rfl | hc
  · rfl
  · rfl
  · rfl
  · exact p.ok.one c hc⟩
theorem prC_par (p : Prc) (to : Int) : (prC p).setIfInBounds 1 (.int .i64 to) = prC { p with par := to } := by simp [prC_eq]
theorem prs_len (l : List Prc) : (prs l).length = l.length := by simp
theorem prs_get {l : List Prc} {i : Nat} {a : Prc} (h : l[i]? = some a) : (prs l)[i]? = some (prV a) := by simp [h]
theorem Sl.pr {w : World} {a : Option Addr} {n cap : Nat} {l : List Prc} (h : Sl w true 26 (.slice a n cap) (prs l)) {i : Nat} {x : Prc} (hx : l[i]? = some x) :
    ∃ b off, a = some ⟨b, off, none⟩ ∧ b < w.heap.size ∧ Cells w b (off + i * 26) (prV x).cells.toList ∧ w.cell? ⟨b, off + i * 26, none⟩ = some (.int .i64 x.pid) ∧ w.cell? ⟨b, off + i * 26 + 1, none⟩ = some (.int .i64 x.par) ∧ w.cell? ⟨b, off + i * 26 + 2, none⟩ = some (.int .i64 x.st) := by
  obtain ⟨b, off, ha, hb, hcell⟩ := h.at (prs_get hx)
  exact ⟨b, off, ha, hb, hcell, hcell 0 _ (by rw [show (prV x).cells = prC x from rfl]; simpa using prC0 x), hcell 1 _ (by rw [show (prV x).cells = prC x from rfl]; simpa using prC1 x), hcell 2 _ (by rw [show (prV x).cells = prC x from rfl]; simpa using prC2 x)⟩
def PrWf (p : Prc) : Prop := (Lit.int .i64 p.pid).wf = true ∧ (Lit.int .i64 p.par).wf = true ∧ (Lit.int .i64 p.st).wf = true

noncomputable instance : DecidableEq Prc := fun _ _ => Classical.propDecidable _
def litV : Value → Lit
  | .int k n => .int k n
  | .bool b => .bool b
  | .string s => .string s.data.toList
  | _ => .bool false
theorem litV_inj {a b : ByteArray} (h : a.data.toList = b.data.toList) : a = b := by
  cases a; cases b; congr 1; exact Array.ext' h
theorem rest_lit {l : List Value} (h : RestOk l) : ∃ r0 r1 r2 r3 r4 r5 r6 r7 pc mem code p0 b0 p1 b1 p2 b2 p3 b3 n a b c, l = restL r0 r1 r2 r3 r4 r5 r6 r7 pc mem code p0 b0 p1 b1 p2 b2 p3 b3 n a b c ∧ l.map litV = restLit r0 r1 r2 r3 r4 r5 r6 r7 pc mem code p0 b0 p1 b1 p2 b2 p3 b3 n a b c := by
  obtain ⟨r0, r1, r2, r3, r4, r5, r6, r7, pc, mem, code, p0, b0, p1, b1, p2, b2, p3, b3, n, a, b, c, rfl, _⟩ := h
  exact ⟨r0, r1, r2, r3, r4, r5, r6, r7, pc, mem, code, p0, b0, p1, b1, p2, b2, p3, b3, n, a, b, c, rfl, rfl⟩
theorem rest_inj {l l' : List Value} (h : RestOk l) (h' : RestOk l') (he : l.map litV = l'.map litV) : l = l' := by
  obtain ⟨r0, r1, r2, r3, r4, r5, r6, r7, pc, mem, code, p0, b0, p1, b1, p2, b2, p3, b3, n, a, b, c, rfl, e1⟩ := rest_lit h
  obtain ⟨s0, s1, s2, s3, s4, s5, s6, s7, pc', mem', code', q0, d0, q1, d1, q2, d2, q3, d3, n', a', b', c', rfl, e2⟩ := rest_lit h'
  rw [e1, e2] at he
  simp only [restLit, List.cons.injEq, Lit.int.injEq, Lit.bool.injEq, Lit.string.injEq, true_and, and_true] at he
  obtain ⟨rfl, rfl, rfl, rfl, rfl, rfl, rfl, rfl, rfl, hm, rfl, rfl, rfl, rfl, rfl, rfl, rfl, rfl, rfl, rfl, rfl, rfl, rfl⟩ := he
  rw [litV_inj hm]
set_option maxHeartbeats 4000000 in
theorem pr_plain (p : Prc) (h : PrWf p) : Plain Try.prog 33 (prC p) (.int .i64 p.pid :: .int .i64 p.par :: .int .i64 p.st :: p.rest.map litV) := by
  obtain ⟨pid, par, st, l, hok⟩ := p
  obtain ⟨w1, w2, w3⟩ := h
  dsimp only at w1 w2 w3
  refine ⟨(prC_size _).trans (by kernel_rfl), 8, ?_⟩
  rw [prC_eq]
  dsimp only
  obtain ⟨r0, r1, r2, r3, r4, r5, r6, r7, pc, mem, code, p0, b0, p1, b1, p2, b2, p3, b3, n, a, b, c, rfl, hm, h32, h64⟩ := hok
  simp only [List.forall_mem_cons] at h32 h64
  obtain ⟨g0, g1, g2, g3, g4, g5, g6, g7, g8, g9, g10, g11, g12, _⟩ := h32
  obtain ⟨f0, f1, f2, f3, f4, _⟩ := h64
  have e0 : Try.prog.cellsOf 33 = 26 := by kernel_rfl
  have e1 : Try.prog.cellsOf 26 = 9 := by kernel_rfl
  have e2 : Try.prog.cellsOf 24 = 8 := by kernel_rfl
  have e3 : Try.prog.cellsOf 23 = 1 := by kernel_rfl
  have e4 : Try.prog.cellsOf 9 = 1 := by kernel_rfl
  have e5 : Try.prog.cellsOf 3 = 1 := by kernel_rfl
  have e6 : Try.prog.cellsOf 4 = 1 := by kernel_rfl
  have e7 : Try.prog.cellsOf 29 = 8 := by kernel_rfl
  have e8 : Try.prog.cellsOf 28 = 2 := by kernel_rfl
  have e9 : Try.prog.cellsOf 31 = 4 := by kernel_rfl
  have hr : List.range 4 = [0, 1, 2, 3] := rfl
  have hr8 : List.range 8 = [0, 1, 2, 3, 4, 5, 6, 7] := rfl
  simp (config := { maxSteps := 4000000 }) [Program.keyLits, Try.underlying33, Try.underlying26, Try.underlying24, Try.underlying23, Try.underlying9, Try.underlying3, Try.underlying4, Try.underlying29, Try.underlying28, Try.underlying31, e0, e1, e2, e3, e4, e5, e6, e7, e8, e9, hr, hr8, restL, litV, w1, w2, w3, hm, g0, g1, g2, g3, g4, g5, g6, g7, g8, g9, g10, g11, g12, f0, f1, f2, f3, f4]
  simp +decide
/-- '==' on processes. -/
theorem eql_pr (x y : Prc) (hx : PrWf x) (hy : PrWf y) : ∀ w, (Op.equalIn 10000 33 (prV x) (prV y)).run Try.prog w = .ok (decide (x = y)) w := by
  refine run_eql_plain (m := 8) (by omega) (by kernel_rfl) (by kernel_rfl) (pr_plain x hx) (pr_plain y hy) _ ?_
  rw [decide_eq_true_iff]
  constructor
  · rintro rfl; rfl
  · intro h
    simp only [List.cons.injEq, Lit.int.injEq, true_and] at h
    exact Prc.ext h.1 h.2.1 h.2.2.1 (rest_inj x.ok y.ok h.2.2.2)

def zeroRest : List Value := restL 0 0 0 0 0 0 0 0 0 ⟨#[]⟩ 0 0 false 0 false 0 false 0 false 0 0 0 0
def oneP (n : Int) : Prc := ⟨n, 0, 0, zeroRest, ⟨0, 0, 0, 0, 0, 0, 0, 0, 0, ⟨#[]⟩, 0, 0, false, 0, false, 0, false, 0, false, 0, 0, 0, 0, rfl, by decide, by decide, by decide⟩⟩
theorem one_eq (n : Int) : prC (oneP n) = #[.int .i64 n, .int .i64 0, .int .i64 0, .int .u32 0, .int .u32 0, .int .u32 0, .int .u32 0, .int .u32 0, .int .u32 0, .int .u32 0, .int .u32 0, .int .u32 0, .string ⟨#[]⟩, .int .i64 0, .int .i64 0, .bool false, .int .i64 0, .bool false, .int .i64 0, .bool false, .int .i64 0, .bool false, .int .u32 0, .int .u32 0, .int .u32 0, .int .u32 0] := by rw [prC_eq]; rfl


theorem ty_proc : Ty Try.prog 33 26 true := ⟨by kernel_rfl, by kernel_rfl, by decide, by kernel_rfl⟩


theorem info_proc : (Try.prog.info? 33).map (fun i => (i.zero, i.size, i.bytes)) = some (some (.agg #[.int .i64 0, .int .i64 0, .int .i64 0, .int .u32 0, .int .u32 0, .int .u32 0, .int .u32 0, .int .u32 0, .int .u32 0, .int .u32 0, .int .u32 0, .int .u32 0, .string ⟨#[]⟩, .int .i64 0, .int .i64 0, .bool false, .int .i64 0, .bool false, .int .i64 0, .bool false, .int .i64 0, .bool false, .int .u32 0, .int .u32 0, .int .u32 0, .int .u32 0]), 26, 168) := by kernel_rfl

set_option maxHeartbeats 1000000 in
theorem clone_proc (v : Value) (xs : List Value) (w : World) (hsl : Sl w true 26 v xs) (hbytes : xs.length * 168 ≤ 140737488355328) :
    Calls Try.prog 31 #[v] w fun e w' => ∃ v', e = .returned v' ∧ Owned w' w.heap.size 33 true 26 v' xs ∧ Below w.heap.size w w' := by
  have hsl0 := Lib.hid hsl
  obtain ⟨hsz, a, cap, rfl, hl, hm, hform⟩ := hsl
  have hlen : xs.length ≤ maxLen := by omega
  cases a with
  | none =>
    have h0 : xs = [] := by
      rcases hform with h0 | ⟨b, off, hb, _⟩
      · exact h0
      · cases hb
    subst h0
    have hnil := fun (n c : Nat) (w : World) => run_eql_slice_none Try.prog (t := 22) (n := n) (c := c) Try.underlying22 w
    clear hform hsz hl hm hlen
    go_enter Try.func31, Try.ntmps31
    go_wp2_with fail
    go_ret
    exact ⟨_, rfl, ⟨World.ownsRow_nil _ _ _ _, by simp⟩, Below.refl _ _⟩
  | some a =>
    have hnil := fun (n c : Nat) (w : World) => run_eql_slice_some Try.prog (t := 22) (a := a) (n := n) (c := c) Try.underlying22 w
    obtain ⟨i0, hi, hz0, hz1, hz2⟩ := info_parts info_proc
    have HI := Lib.hid hi
    have HZ := Lib.hid (And.intro hz0 (And.intro hz1 hz2))
    have HS := Lib.hid hsz
    clear hi hz0 hz1 hz2 hform hl hm hsz
    go_enter Try.func31, Try.ntmps31
    go_wp2_with (first | (refine wpList_append_own _ rfl _ _ 22 rfl w.heap.size 33 i0 (.agg #[.int .i64 0, .int .i64 0, .int .i64 0, .int .u32 0, .int .u32 0, .int .u32 0, .int .u32 0, .int .u32 0, .int .u32 0, .int .u32 0, .int .u32 0, .int .u32 0, .string ⟨#[]⟩, .int .i64 0, .int .i64 0, .bool false, .int .i64 0, .bool false, .int .i64 0, .bool false, .int .i64 0, .bool false, .int .u32 0, .int .u32 0, .int .u32 0, .int .u32 0]) 26 168 Try.underlying22 HI.out HZ.out.1 HZ.out.2.1 HZ.out.2.2 rfl (by decide) (.slice (some ⟨w.heap.size, 0, none⟩) 0 0) 0 [] (by simp [Act.eval]) (World.ownsRow_made w #[] 0 (Nat.le_refl _) (Nat.zero_le _) rfl) a xs.length cap (flat xs) (by simp [Act.eval]) ?c1 ?c2 ?c3 ?c4 ?c5 ?c6 ?_) | fail)
    case c1 => exact flat_len HS.out
    case c2 => exact (hsl0.out.below ((Below.refl _ _).alloc (Nat.le_refl _) _)).news
    case c3 => exact flat_one HS.out
    case c4 => omega
    case c5 => omega
    case c6 => simp
    intro v' w1 hown hgrow _
    try simp only [Nat.zero_add, List.nil_append] at hown
    have HO := Lib.hid hown
    have HG := Lib.hid hgrow
    clear hown hgrow
    go_wp2_with fail
    go_ret
    exact ⟨_, rfl, ⟨HO.out, HS.out⟩, ((Below.refl _ _).alloc (Nat.le_refl _) _).grown HG.out (by simp) (by intro k hk; simp [Value.ownBlock] at hk; omega)⟩

theorem zero_pr : Val true 26 (.agg #[.int .i64 0, .int .i64 0, .int .i64 0, .int .u32 0, .int .u32 0, .int .u32 0, .int .u32 0, .int .u32 0, .int .u32 0, .int .u32 0, .int .u32 0, .int .u32 0, .string ⟨#[]⟩, .int .i64 0, .int .i64 0, .bool false, .int .i64 0, .bool false, .int .i64 0, .bool false, .int .i64 0, .bool false, .int .u32 0, .int .u32 0, .int .u32 0, .int .u32 0]) := by
  rw [← one_eq]; exact pr_val (oneP 0)
end Go.Proofs.Ytianochlnbehnaa
