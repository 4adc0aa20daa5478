/- The law TopHolds returns true for every trip and every list of feed holds, and leaves its arguments as they were. No condition. -/
import Derived.Test.YtmaegpblaihepaaRows
import Derived.Test.YtmaegpblaihepaaT15
import Derived.Test.YtmaegpblaihepaaMe
import Derived.WalkKit
import Derived.ProofKit
import Derived.OpenShut
import Derived.ChangeOld
import Derived.Below
import Derived.SizedLaws
import Derived.Carry
import Derived.Lib.SmallJoins
import Derived.Deep.Slices
import Derived.Deep.Fields
import Derived.ChangeSame
namespace Go.Proofs.Ytmaegpblaihepaa.topHolds
open Go.ChangeShapes Go.WideShapes Go.ChangeAt Go.RowKit
set_option linter.unusedVariables false
set_option linter.unusedSimpArgs false
theorem own : ownKnob Try.prog.godebug = none := by kernel_rfl
theorem laidOut : laidOutB Try.prog = true := by kernel_rfl
theorem cells28 : Try.prog.cellsOf 28 = 7 := by kernel_rfl
theorem cells23 : Try.prog.cellsOf 23 = 3 := by kernel_rfl
theorem cells24 : Try.prog.cellsOf 24 = 1 := by kernel_rfl
theorem cells26 : Try.prog.cellsOf 26 = 3 := by kernel_rfl
theorem cells52 : Try.prog.cellsOf 52 = 4 := by kernel_rfl
theorem cells22 : Try.prog.cellsOf 22 = 1 := by kernel_rfl
theorem cells2 : Try.prog.cellsOf 2 = 1 := by kernel_rfl
theorem cells5 : Try.prog.cellsOf 5 = 1 := by kernel_rfl
theorem list1 {α : Type} {l : List α} (h : l.length = 1) : ∃ a, l = [a] := by
  match l, h with
  | [a], _ => exact ⟨a, rfl⟩
theorem list3 {α : Type} {l : List α} (h : l.length = 3) : ∃ a b c, l = [a, b, c] := by
  match l, h with
  | [a, b, c], _ => exact ⟨a, b, c, rfl⟩
theorem list4 {α : Type} {l : List α} (h : l.length = 4) : ∃ a b c d, l = [a, b, c, d] := by
  match l, h with
  | [a, b, c, d], _ => exact ⟨a, b, c, d, rfl⟩
theorem list7 {α : Type} {l : List α} (h : l.length = 7) : ∃ a b c d e f g, l = [a, b, c, d, e, f, g] := by
  match l, h with
  | [a, b, c, d, e, f, g], _ => exact ⟨a, b, c, d, e, f, g, rfl⟩
theorem b16 {a : Int} (h : (Lit.int .i16 a).wf = true) : -32768 ≤ a ∧ a ≤ 32767 := by
  simp only [Lit.wf, IntKind.min, IntKind.max, IntKind.signed, IntKind.bits, Bool.and_eq_true, decide_eq_true_eq, if_true] at h
  omega
theorem b8 {a : Int} (h : (Lit.int .u8 a).wf = true) : a ≤ 255 := by
  simp only [Lit.wf, IntKind.min, IntKind.max, IntKind.signed, IntKind.bits, Bool.and_eq_true, decide_eq_true_eq] at h
  have := h.2
  simp at this
  omega
theorem open_from {H : Type} {enc : TypeId × Value → H} {w : World} {base : Nat} {spare : Nat → Bool} {held : Bool} {n : Nat} {cs : List Value} {x : DataW H × List MemPlace}
    (h : DataW.trod enc Try.prog w base spare held n 23 cs = some x) (hc : cs.length = 3) :
    ∃ a b c : Int, cs = [.int .i16 a, .int .i16 b, .int .i16 c] ∧ (Lit.int .i16 a).wf = true ∧ (Lit.int .i16 b).wf = true ∧ (Lit.int .i16 c).wf = true := by
  obtain ⟨v0, v1, v2, rfl⟩ := list3 hc
  obtain ⟨xs, m, -, -, -, hl, hx⟩ := DataW.trod_array Try.underlying23 h
  obtain ⟨y0, y1, y2, rfl⟩ := list3 hl
  have g0 := hx 0 (by omega)
  have g1 := hx 1 (by omega)
  have g2 := hx 2 (by omega)
  simp only [cells22, List.drop_zero, List.drop_succ_cons, List.take_succ_cons, List.take_zero, Nat.zero_mul, Nat.one_mul, Nat.mul_one, List.getElem?_cons_zero, List.getElem?_cons_succ] at g0 g1 g2
  obtain ⟨a, e0, -, w0⟩ := DataW.trod_int Try.underlying22 g0
  obtain ⟨b, e1, -, w1⟩ := DataW.trod_int Try.underlying22 g1
  obtain ⟨c, e2, -, w2⟩ := DataW.trod_int Try.underlying22 g2
  simp only [List.cons.injEq, and_true] at e0 e1 e2
  subst e0 e1 e2
  exact ⟨a, b, c, rfl, w0, w1, w2⟩
theorem open_way {H : Type} {enc : TypeId × Value → H} {w : World} {base : Nat} {spare : Nat → Bool} {held : Bool} {n : Nat} {cs : List Value} {x : DataW H × List MemPlace}
    (h : DataW.trod enc Try.prog w base spare held n 52 cs = some x) (hc : cs.length = 4) :
    ∃ a b c d : Int, cs = [.int .i16 a, .int .i16 b, .int .i16 c, .int .i16 d] ∧ (Lit.int .i16 d).wf = true := by
  obtain ⟨v0, v1, v2, v3, rfl⟩ := list4 hc
  obtain ⟨xs, m, -, -, -, hl, hx⟩ := DataW.trod_array Try.underlying52 h
  obtain ⟨y0, y1, y2, y3, rfl⟩ := list4 hl
  have g0 := hx 0 (by omega)
  have g1 := hx 1 (by omega)
  have g2 := hx 2 (by omega)
  have g3 := hx 3 (by omega)
  simp only [cells22, List.drop_zero, List.drop_succ_cons, List.take_succ_cons, List.take_zero, Nat.zero_mul, Nat.one_mul, Nat.mul_one, List.getElem?_cons_zero, List.getElem?_cons_succ] at g0 g1 g2 g3
  obtain ⟨a, e0, -, w0⟩ := DataW.trod_int Try.underlying22 g0
  obtain ⟨b, e1, -, w1⟩ := DataW.trod_int Try.underlying22 g1
  obtain ⟨c, e2, -, w2⟩ := DataW.trod_int Try.underlying22 g2
  obtain ⟨d, e3, -, w3⟩ := DataW.trod_int Try.underlying22 g3
  simp only [List.cons.injEq, and_true] at e0 e1 e2 e3
  subst e0 e1 e2 e3
  exact ⟨a, b, c, d, rfl, w3⟩
theorem open_limits {H : Type} {enc : TypeId × Value → H} {w : World} {base : Nat} {spare : Nat → Bool} {held : Bool} {n : Nat} {cs : List Value} {x : DataW H × List MemPlace}
    (h : DataW.trod enc Try.prog w base spare held n 26 cs = some x) (hc : cs.length = 3) :
    ∃ a b c : Int, cs = [.int .i64 a, .int .i64 b, .int .i64 c] := by
  obtain ⟨v0, v1, v2, rfl⟩ := list3 hc
  obtain ⟨y0, y1, y2, m, -, -, h0, h1, h2⟩ := Go.Deep.trod_struct3 Try.underlying26 h
  simp only [cells2, List.drop_zero, List.drop_succ_cons, List.take_succ_cons, List.take_zero] at h0 h1 h2
  obtain ⟨a, e0, -, -⟩ := DataW.trod_int Try.underlying2 h0
  obtain ⟨b, e1, -, -⟩ := DataW.trod_int Try.underlying2 h1
  obtain ⟨c, e2, -, -⟩ := DataW.trod_int Try.underlying2 h2
  simp only [List.cons.injEq, and_true] at e0 e1 e2
  subst e0 e1 e2
  exact ⟨a, b, c, rfl⟩
theorem open_ways {H : Type} {enc : TypeId × Value → H} {w : World} {base : Nat} {spare : Nat → Bool} {held : Bool} {n : Nat} {cs : List Value} {x : DataW H × List MemPlace}
    (h : DataW.trod enc Try.prog w base spare held n 24 cs = some x) :
    ∃ (A : Option Addr) (len cap : Nat) (l : List F.S52), cs = [.slice A len cap] ∧ l.length = len ∧ len ≤ cap ∧ Go.Proofs.YtmaegpblaihepaaW.PrintWords.Kd.C F.k52 w A len l ∧ ∀ m ∈ l, -32768 ≤ m.f3 ∧ m.f3 ≤ 32767 := by
  rcases Go.Deep.open_slice Try.underlying24 h with ⟨rfl, -⟩ | ⟨a, len, cap, m, n', D, Pl, rfl, -, hl, hm, hmm, -, hi⟩
  · exact ⟨none, 0, 0, [], rfl, rfl, Nat.le_refl _, ⟨rfl, by omega, fun h => absurd h (by omega)⟩, by simp⟩
  · have hle : len ≤ m := by rw [hmm]; split <;> omega
    have el : ∀ i, ∃ s : F.S52, i < len → (∀ j, j < 4 → w.cell? (a.add (i * 4 + j)) = [Value.int .i16 s.f0, .int .i16 s.f1, .int .i16 s.f2, .int .i16 s.f3][j]?) ∧ -32768 ≤ s.f3 ∧ s.f3 ≤ 32767 := by
      intro i
      by_cases hil : i < len
      · obtain ⟨cs', hc, ht⟩ := hi i (by omega)
        rw [cells52] at hc
        obtain ⟨-, hcl, hat⟩ := World.cells?_some hc
        obtain ⟨x0, x1, x2, x3, rfl, w3⟩ := open_way ht hcl
        refine ⟨⟨x0, x1, x2, x3⟩, fun _ => ⟨fun j hj => ?_, b16 w3⟩⟩
        rw [← Go.Deep.add_add]
        exact hat j hj
      · exact ⟨F.z52, fun h => absurd h hil⟩
    obtain ⟨f, hf⟩ := Classical.axiomOfChoice el
    refine ⟨some a, len, cap, (List.range len).map f, rfl, by simp, hl, ⟨by simp, by unfold maxLen at hm; omega, fun _ => ⟨a, rfl, fun j p hj => ?_⟩⟩, ?_⟩
    · obtain ⟨hjl, hp⟩ := List.getElem?_eq_some_iff.1 hj
      simp only [List.length_map, List.length_range] at hjl
      have hp' : f j = p := by simpa using hp
      subst hp'
      refine ⟨_, rfl, F.k52_mk w (f j), fun i u hu => ?_⟩
      have hlt : i < 4 := (List.getElem?_eq_some_iff.1 hu).1
      exact ((hf j hjl).1 i hlt).trans hu
    · intro m hm'
      obtain ⟨j, hj, rfl⟩ := List.mem_map.1 hm'
      exact (hf j (List.mem_range.1 hj)).2
theorem open_holds {H : Type} {enc : TypeId × Value → H} {w : World} {base : Nat} {spare : Nat → Bool} {held : Bool} {n : Nat} {cs : List Value} {x : DataW H × List MemPlace}
    (h : DataW.trod enc Try.prog w base spare held n 29 cs = some x) :
    ∃ (A : Option Addr) (len cap : Nat) (l : List Int), cs = [.slice A len cap] ∧ l.length = len ∧ len ≤ cap ∧ Go.Proofs.YtmaegpblaihepaaW.PrintWords.Kd.C (Go.Proofs.YtmaegpblaihepaaW.PrintWords.Kd.int .u8) w A len l ∧ ∀ m ∈ l, m ≤ 255 := by
  rcases Go.Deep.open_slice Try.underlying29 h with ⟨rfl, -⟩ | ⟨a, len, cap, m, n', D, Pl, rfl, -, hl, hm, hmm, -, hi⟩
  · exact ⟨none, 0, 0, [], rfl, rfl, Nat.le_refl _, ⟨rfl, by omega, fun h => absurd h (by omega)⟩, by simp⟩
  · have hle : len ≤ m := by rw [hmm]; split <;> omega
    have el : ∀ i, ∃ s : Int, i < len → (∀ j, j < 1 → w.cell? (a.add (i * 1 + j)) = [Value.int .u8 s][j]?) ∧ s ≤ 255 := by
      intro i
      by_cases hil : i < len
      · obtain ⟨cs', hc, ht⟩ := hi i (by omega)
        rw [cells5] at hc
        obtain ⟨-, hcl, hat⟩ := World.cells?_some hc
        obtain ⟨v, rfl⟩ := list1 hcl
        obtain ⟨x0, e0, -, w0⟩ := DataW.trod_int Try.underlying5 ht
        simp only [List.cons.injEq, and_true] at e0
        subst e0
        refine ⟨x0, fun _ => ⟨fun j hj => ?_, b8 w0⟩⟩
        rw [← Go.Deep.add_add]
        exact hat j hj
      · exact ⟨0, fun h => absurd h hil⟩
    obtain ⟨f, hf⟩ := Classical.axiomOfChoice el
    refine ⟨some a, len, cap, (List.range len).map f, rfl, by simp, hl, ⟨by simp, by unfold maxLen at hm; omega, fun _ => ⟨a, rfl, fun j p hj => ?_⟩⟩, ?_⟩
    · obtain ⟨hjl, hp⟩ := List.getElem?_eq_some_iff.1 hj
      simp only [List.length_map, List.length_range] at hjl
      have hp' : f j = p := by simpa using hp
      subst hp'
      refine ⟨_, rfl, rfl, fun i u hu => ?_⟩
      have hlt : i < 1 := (List.getElem?_eq_some_iff.1 hu).1
      exact ((hf j hjl).1 i hlt).trans hu
    · intro m hm'
      obtain ⟨j, hj, rfl⟩ := List.mem_map.1 hm'
      exact (hf j (List.mem_range.1 hj)).2
theorem open_trip {H : Type} {enc : TypeId × Value → H} {w : World} {base : Nat} {spare : Nat → Bool} {held : Bool} {n : Nat} {cs : List Value} {x : DataW H × List MemPlace}
    (h : DataW.trod enc Try.prog w base spare held n 28 cs = some x) (hc : cs.length = 7) :
    ∃ (x0 y0 z0 : Int) (A : Option Addr) (len cap : Nat) (l : List F.S52) (sp ac je : Int), cs = [.int .i16 x0, .int .i16 y0, .int .i16 z0, .slice A len cap, .int .i64 sp, .int .i64 ac, .int .i64 je] ∧ (-32768 ≤ x0 ∧ x0 ≤ 32767) ∧ (-32768 ≤ y0 ∧ y0 ≤ 32767) ∧ (-32768 ≤ z0 ∧ z0 ≤ 32767) ∧
      l.length = len ∧ len ≤ cap ∧ Go.Proofs.YtmaegpblaihepaaW.PrintWords.Kd.C F.k52 w A len l ∧ ∀ m ∈ l, -32768 ≤ m.f3 ∧ m.f3 ≤ 32767 := by
  obtain ⟨v0, v1, v2, v3, v4, v5, v6, rfl⟩ := list7 hc
  obtain ⟨y0, y1, y2, m, -, -, h0, h1, h2⟩ := Go.Deep.trod_struct3 Try.underlying28 h
  simp only [cells23, cells24, cells26, List.drop_zero, List.drop_succ_cons, List.take_succ_cons, List.take_zero] at h0 h1 h2
  obtain ⟨a, b, c, e0, w0, w1, w2⟩ := open_from h0 rfl
  obtain ⟨A, len, cap, l, e1, el, hl, hC, hM⟩ := open_ways h1
  obtain ⟨sp, ac, je, e2⟩ := open_limits h2 rfl
  simp only [List.cons.injEq, and_true] at e0 e1 e2
  obtain ⟨e0a, e0b, e0c⟩ := e0
  obtain ⟨e2a, e2b, e2c⟩ := e2
  subst e0a e0b e0c e1 e2a e2b e2c
  exact ⟨a, b, c, A, len, cap, l, sp, ac, je, rfl, b16 w0, b16 w1, b16 w2, el, hl, hC, hM⟩
set_option maxRecDepth 100000 in
theorem lifted (os : Os) (started : os.Started) (H : Type) (enc : TypeId × Value → H) :
    ReturnsInHanded {} Try.checked os 3 .any (Rows.topHoldsSpec.pre6 enc Try.prog Try.f3 Rows.topHoldsRow.domain false) (Rows.topHoldsSpec.post enc Try.prog Try.f3 false true false false) := by
  refine returnsInHanded_of_change_sized (C := Try.checked) own started (by kernel_rfl) Try.func3
    (ChangeSpec.witness6 (enc := enc) (C := Try.checked) false ⟨#[], #[.agg #[.int .i16 0, .int .i16 0, .int .i16 0, .slice none 0 0, .int .i64 0, .int .i64 0, .int .i64 0], .slice none 0 0], []⟩ 8 (by kernel_rfl) (by kernel_rfl) (by kernel_rfl) (by kernel_rfl)) ?_
  intro W base args ds gs before hval0 hW hcnd hsz0 _
  have hval : ∀ (j : Nat) t v, Try.f3.params[j]? = some t → args[j]? = some v → Value.okWide Try.prog W .any base t v := hval0
  have hW' := hW
  obtain ⟨p, q, hA0, hV, rfl, hfz, hnd⟩ := hW
  have hA : DataW.TrodAll enc Try.prog W 0 (fun _ => true) true Try.f3.params.toList args.toList ds p := hA0
  rw [Try.params3] at hA hval
  obtain ⟨v0, vs0, d0, ds0, p0, q0, hargs, rfl, rfl, h0, r0⟩ := trodAll_cons hA
  obtain ⟨v1, vs1, d1, ds1, p1, q1, rfl, rfl, rfl, h1, r1⟩ := trodAll_cons r0
  obtain ⟨rfl, rfl, rfl⟩ := trodAll_nil r1
  obtain rfl : args = #[v0, v1] := by cases args; simp_all
  obtain ⟨rfl, rfl⟩ := trodVars_none hV
  have lt0 : ∀ x ∈ p0, x.block < W.heap.size := by obtain ⟨m, hm⟩ := h0; exact DataW.trod_lt m _ _ _ hm
  have lt1 : ∀ x ∈ p1, x.block < W.heap.size := by obtain ⟨m, hm⟩ := h1; exact DataW.trod_lt m _ _ _ hm
  have k0 := h0
  have k1 := h1
  obtain ⟨cs0, rfl, sz0⟩ := okWide_struct Try.underlying28 (hval 0 28 v0 rfl rfl)
  obtain ⟨a1, len1, cap1, rfl⟩ := okWide_slice Try.underlying29 (hval 1 29 v1 rfl rfl)
  obtain ⟨u0, hf0⟩ := h0
  obtain ⟨u1, hf1⟩ := h1
  obtain ⟨x0, y0, z0, A, len, cap, l, sp, ac, je, ec0, hx, hy, hz, el, hlc, hC, hM⟩ := open_trip hf0 (by rw [cells28] at sz0; simpa [Value.cells] using sz0)
  obtain rfl : cs0 = #[.int .i16 x0, .int .i16 y0, .int .i16 z0, .slice A len cap, .int .i64 sp, .int .i64 ac, .int .i64 je] := by cases cs0; simpa [Value.cells] using ec0
  obtain ⟨A2, len2, cap2, l2, ec1, el2, hlc2, hC2, hM2⟩ := open_holds hf1
  simp [Value.cells] at ec1
  obtain ⟨rfl, rfl, rfl⟩ := ec1
  subst el el2
  clear hA0 hval0 hsz0
  obtain ⟨k, hk⟩ := Pure.top_ex x0 y0 z0 hx hy hz l hM sp ac je l2 hM2
  refine (F.swarftop_TopHolds.calls k x0 y0 z0 _ _ l sp ac je _ _ l2 W hC hlc hC2 hlc2 hk).mono ?_
  rintro e W' ⟨rfl, bel⟩
  exact ⟨_, rfl, _, _, _, [], _, [], hW', trodAll_mk1 (shut_bool Try.underlying4 _), (trodAll_cons_mk (Below.trod laidOut (by kernel_rfl) (of_decide_eq_true (by kernel_rfl)) k0 bel lt0) (trodAll_cons_mk (Below.trod laidOut (by kernel_rfl) (of_decide_eq_true (by kernel_rfl)) k1 bel lt1) trodAll_mk0)), rfl, bel.frame _, fun h => by cases h⟩
theorem over : Rows.topHoldsRow.holds Try.pinned (OpenSpec.ofChange Rows.topHoldsSpec) :=
  OpenClaim.holds_of_wide 3 Try.f3 rfl rfl rfl rfl rfl rfl rfl ⟨rfl, rfl, rfl, rfl, rfl⟩ rfl rfl rfl rfl rfl (by kernel_rfl) Try.func3 (by kernel_rfl)
    (of_decide_eq_true (by kernel_rfl)) (by unfold Func.isWrapper; first | (rw [if_pos (by decide +kernel)]; kernel_rfl) | (rw [if_neg (by decide +kernel)]; exact ⟨rfl, rfl⟩))
    (fun os started H enc _ => lifted os started H enc)
theorem proved : Rows.TopHoldsSaid := over
#print axioms proved
end Go.Proofs.Ytmaegpblaihepaa.topHolds
namespace Go.Proofs.Ytmaegpblaihepaa
/-- The row, under a short name, for the claim. -/
theorem topHolds_holds : Rows.TopHoldsSaid := topHolds.proved
end Go.Proofs.Ytmaegpblaihepaa
