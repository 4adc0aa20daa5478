/- The law ProfileForward returns true for all positions and all numbers, and leaves its arguments as they were. No condition. -/
import Derived.Test.YtdfilkofhgmakaaRows
import Derived.Test.YtdfilkofhgmakaaFx39
import Derived.Test.YtdfilkofhgmakaaMathFw
import Derived.WalkKit
import Derived.ProofKit
import Derived.OpenShut
import Derived.ChangeOld
import Derived.Below
import Derived.SizedLaws
import Derived.Carry
import Derived.Lib.SmallJoins
import Derived.Deep.Strs
namespace Go.Proofs.Ytdfilkofhgmakaa.profileForward
open Go.ChangeShapes Go.WideShapes Go.ChangeAt Go.RowKit
set_option linter.unusedVariables false
set_option linter.unusedSimpArgs false
theorem own : ownKnob Try.prog.godebug = none := by kernel_rfl
theorem laidOut : laidOutB Try.prog = true := by kernel_rfl
theorem cellsS : Try.prog.cellsOf 47 = 3 := by kernel_rfl
theorem cells2 : Try.prog.cellsOf 2 = 1 := by kernel_rfl
theorem list3 {α : Type} {l : List α} (h : l.length = 3) : ∃ a b c, l = [a, b, c] := by
  match l, h with
  | [a, b, c], _ => exact ⟨a, b, c, rfl⟩
theorem open_three {H : Type} {enc : TypeId × Value → H} {w : World} {base : Nat} {spare : Nat → Bool} {held : Bool} {n : Nat} {cs : List Value} {x : DataW H × List MemPlace}
    (h : DataW.trod enc Try.prog w base spare held n 47 cs = some x) (hc : cs.length = 3) :
    ∃ a b c : Int, cs = [.int .i64 a, .int .i64 b, .int .i64 c] ∧ (Lit.int .i64 a).wf = true ∧ (Lit.int .i64 b).wf = true ∧ (Lit.int .i64 c).wf = true := by
  obtain ⟨v0, v1, v2, rfl⟩ := list3 hc
  obtain ⟨y0, y1, y2, m, -, -, h0, h1, h2⟩ := Go.Deep.trod_struct3 Try.underlying47 h
  simp only [cells2, List.drop_zero, List.drop_succ_cons, List.take_succ_cons, List.take_zero] at h0 h1 h2
  obtain ⟨a, e0, -, w0⟩ := DataW.trod_int Try.underlying2 h0
  obtain ⟨b, e1, -, w1⟩ := DataW.trod_int Try.underlying2 h1
  obtain ⟨c, e2, -, w2⟩ := DataW.trod_int Try.underlying2 h2
  simp only [List.cons.injEq, and_true] at e0 e1 e2
  subst e0 e1 e2
  exact ⟨a, b, c, rfl, w0, w1, w2⟩
theorem okWide_array {P : Program} {w : World} {r : Reach} {base : Nat} {t : TypeId} {v : Value} {n : Nat} {e : TypeId} (ht : P.underlying t = some (.array n e)) (h : Value.okWide P w r base t v) : ∃ cs, v = .agg cs ∧ cs.size = P.cellsOf t := by
  simp only [Value.okWide, ht] at h
  obtain ⟨cs, h1, h2, _⟩ := h
  exact ⟨cs, h1, h2⟩
theorem cellsR : Try.prog.cellsOf 52 = 3 := by kernel_rfl
theorem listR {α : Type} {l : List α} (h : l.length = 3) : ∃ a b c, l = [a, b, c] := by
  match l, h with
  | [a, b, c], _ => exact ⟨a, b, c, rfl⟩
theorem open_arr {H : Type} {enc : TypeId × Value → H} {w : World} {base : Nat} {spare : Nat → Bool} {held : Bool} {n : Nat} {cs : List Value} {x : DataW H × List MemPlace}
    (h : DataW.trod enc Try.prog w base spare held n 52 cs = some x) (hc : cs.length = 3) :
    ∃ a b c : Int, cs = [.int .i64 a, .int .i64 b, .int .i64 c] := by
  obtain ⟨v0, v1, v2, rfl⟩ := listR hc
  obtain ⟨xs, m, -, -, -, hl, hx⟩ := DataW.trod_array Try.underlying52 h
  obtain ⟨y0, y1, y2, rfl⟩ := listR hl
  have g0 := hx 0 (by omega)
  have g1 := hx 1 (by omega)
  have g2 := hx 2 (by omega)
  simp only [cells2, List.drop_zero, List.drop_succ_cons, List.take_succ_cons, List.take_zero, Nat.zero_mul, Nat.one_mul, Nat.mul_one, List.getElem?_cons_zero, List.getElem?_cons_succ] at g0 g1 g2
  obtain ⟨a, e0, -, -⟩ := DataW.trod_int Try.underlying2 g0
  obtain ⟨b, e1, -, -⟩ := DataW.trod_int Try.underlying2 g1
  obtain ⟨c, e2, -, -⟩ := DataW.trod_int Try.underlying2 g2
  simp only [List.cons.injEq, and_true] at e0 e1 e2
  subst e0 e1 e2
  exact ⟨a, b, c, rfl⟩
set_option maxRecDepth 100000 in
theorem lifted (os : Os) (started : os.Started) (H : Type) (enc : TypeId × Value → H) :
    ReturnsInHanded {} Try.checked os 9 .any (Rows.profileForwardSpec.pre6 enc Try.prog Try.f9 Rows.profileForwardRow.domain false) (Rows.profileForwardSpec.post enc Try.prog Try.f9 false true false false) := by
  refine returnsInHanded_of_change_sized (C := Try.checked) own started (by kernel_rfl) Try.func9
    (ChangeSpec.witness6 (enc := enc) (C := Try.checked) false ⟨#[], #[.agg #[.int .i64 0, .int .i64 0, .int .i64 0], .agg #[.int .i64 0, .int .i64 0, .int .i64 0], .agg #[.int .i64 0, .int .i64 0, .int .i64 0]], []⟩ 8 (by kernel_rfl) (by kernel_rfl) (by kernel_rfl) (by kernel_rfl)) ?_
  intro W base args ds gs before hval0 hW hcnd hsz0 _
  have hsz : (DataW.weightsEach Try.prog (Try.f9.params.toList ++ Rows.profileForwardSpec.plain.varTypes Try.prog) (ds ++ gs)).all (· ≤ reachBytes) = true := hsz0
  have hval : ∀ (j : Nat) t v, Try.f9.params[j]? = some t → args[j]? = some v → Value.okWide Try.prog W .any base t v := hval0
  have hW' := hW
  obtain ⟨p, q, hA0, hV, rfl, hfz, hnd⟩ := hW
  have hA : DataW.TrodAll enc Try.prog W 0 (fun _ => true) true Try.f9.params.toList args.toList ds p := hA0
  rw [Try.params9] at hA hval hsz
  obtain ⟨v0, vs0, d0, ds0, p0, q0, hargs, rfl, rfl, h0, r0⟩ := trodAll_cons hA
  obtain ⟨v1, vs1, d1, ds1, p1, q1, rfl, rfl, rfl, h1, r1⟩ := trodAll_cons r0
  obtain ⟨v2, vs2, d2, ds2, p2, q2, rfl, rfl, rfl, h2, r2⟩ := trodAll_cons r1
  obtain ⟨rfl, rfl, rfl⟩ := trodAll_nil r2
  obtain rfl : args = #[v0, v1, v2] := by cases args; simp_all
  obtain ⟨rfl, rfl⟩ := trodVars_none hV
  have lt0 : ∀ x ∈ p0, x.block < W.heap.size := by obtain ⟨m, hm⟩ := h0; exact DataW.trod_lt m _ _ _ hm
  have k0 := h0
  obtain ⟨cs0, rfl, sz0⟩ := okWide_struct Try.underlying47 (hval 0 47 v0 rfl rfl)
  obtain ⟨u0, hf0⟩ := h0
  obtain ⟨s0_0, s0_1, s0_2, ec0, wS0, wA0, wJ0⟩ := open_three hf0 (by rw [cellsS] at sz0; simpa [Value.cells] using sz0)
  obtain rfl : cs0 = #[.int .i64 s0_0, .int .i64 s0_1, .int .i64 s0_2] := by cases cs0; simpa [Value.cells] using ec0
  have lt1 : ∀ x ∈ p1, x.block < W.heap.size := by obtain ⟨m, hm⟩ := h1; exact DataW.trod_lt m _ _ _ hm
  have k1 := h1
  obtain ⟨cs1, rfl, sz1⟩ := okWide_struct Try.underlying47 (hval 1 47 v1 rfl rfl)
  obtain ⟨u1, hf1⟩ := h1
  obtain ⟨s1_0, s1_1, s1_2, ec1, wS1, wA1, wJ1⟩ := open_three hf1 (by rw [cellsS] at sz1; simpa [Value.cells] using sz1)
  obtain rfl : cs1 = #[.int .i64 s1_0, .int .i64 s1_1, .int .i64 s1_2] := by cases cs1; simpa [Value.cells] using ec1
  have lt2 : ∀ x ∈ p2, x.block < W.heap.size := by obtain ⟨m, hm⟩ := h2; exact DataW.trod_lt m _ _ _ hm
  have k2 := h2
  obtain ⟨cs2, rfl, sz2⟩ := okWide_array Try.underlying52 (hval 2 52 v2 rfl rfl)
  obtain ⟨u2, hf2⟩ := h2
  obtain ⟨e2_0, e2_1, e2_2, ec2⟩ := open_arr hf2 (by rw [cellsR] at sz2; simpa [Value.cells] using sz2)
  obtain rfl : cs2 = #[.int .i64 e2_0, .int .i64 e2_1, .int .i64 e2_2] := by cases cs2; simpa [Value.cells] using ec2
  clear hA0 hval0 hsz0 hsz
  obtain ⟨k, hk⟩ := Pure.law_forward s0_0 s0_1 s0_2 s1_0 s1_1 s1_2 e2_0 e2_1 e2_2
  refine (F.swarflaw49_ProfileForward.calls k s0_0 s0_1 s0_2 s1_0 s1_1 s1_2 e2_0 e2_1 e2_2 true W ⟨rfl⟩  hk).mono ?_
  rintro e W' ⟨rfl, bel⟩
  exact ⟨_, rfl, _, _, _, [], _, [], hW', trodAll_mk1 (shut_bool Try.underlying4 _), (trodAll_cons_mk (Below.trod laidOut (by kernel_rfl) (of_decide_eq_true (by kernel_rfl)) k0 bel lt0) (trodAll_cons_mk (Below.trod laidOut (by kernel_rfl) (of_decide_eq_true (by kernel_rfl)) k1 bel lt1) (trodAll_cons_mk (Below.trod laidOut (by kernel_rfl) (of_decide_eq_true (by kernel_rfl)) k2 bel lt2) trodAll_mk0))), rfl, bel.frame _, fun h => by cases h⟩
theorem over : Rows.profileForwardRow.holds Try.pinned (OpenSpec.ofChange Rows.profileForwardSpec) :=
  OpenClaim.holds_of_wide 9 Try.f9 rfl rfl rfl rfl rfl rfl rfl ⟨rfl, rfl, rfl, rfl, rfl⟩ rfl rfl rfl rfl rfl (by kernel_rfl) Try.func9 (by kernel_rfl)
    (of_decide_eq_true (by kernel_rfl)) (by unfold Func.isWrapper; first | (rw [if_pos (by decide +kernel)]; kernel_rfl) | (rw [if_neg (by decide +kernel)]; exact ⟨rfl, rfl⟩))
    (fun os started H enc _ => lifted os started H enc)
theorem proved : Rows.ProfileForwardSaid := over
#print axioms proved
end Go.Proofs.Ytdfilkofhgmakaa.profileForward
namespace Go.Proofs.Ytdfilkofhgmakaa
/-- The row, under a short name, for the claim. -/
theorem profileForward_holds : Rows.ProfileForwardSaid := profileForward.proved
end Go.Proofs.Ytdfilkofhgmakaa
