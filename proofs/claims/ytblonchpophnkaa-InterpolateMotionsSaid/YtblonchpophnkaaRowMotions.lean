/- The law InterpolateMotions returns true for every position and every list of moves and every tool, and leaves its arguments as they were. No condition. -/
import Derived.Test.YtblonchpophnkaaRows
import Derived.Test.YtblonchpophnkaaFm34
import Derived.Test.YtblonchpophnkaaMathQl
import Derived.WalkKit
import Derived.ProofKit
import Derived.OpenShut
import Derived.ChangeOld
import Derived.Below
import Derived.SizedLaws
import Derived.Carry
import Derived.Lib.SmallJoins
import Derived.Deep.Slices
import Derived.Deep.Fields
import Derived.ChangeSame
namespace Go.Proofs.Ytblonchpophnkaa.interpolateMotions
open Go.ChangeShapes Go.WideShapes Go.ChangeAt Go.RowKit
set_option linter.unusedVariables false
theorem own : ownKnob Try.prog.godebug = none := by kernel_rfl
theorem laidOut : laidOutB Try.prog = true := by kernel_rfl
theorem cells23 : Try.prog.cellsOf 23 = 3 := by kernel_rfl
theorem cells25 : Try.prog.cellsOf 25 = 2 := by kernel_rfl
theorem cells27 : Try.prog.cellsOf 27 = 7 := by kernel_rfl
theorem cells2 : Try.prog.cellsOf 2 = 1 := by kernel_rfl
theorem cells3 : Try.prog.cellsOf 3 = 1 := by kernel_rfl
theorem list3 {α : Type} {l : List α} (h : l.length = 3) : ∃ a b c, l = [a, b, c] := by
  match l, h with
  | [a, b, c], _ => exact ⟨a, b, c, rfl⟩
theorem list7 {α : Type} {l : List α} (h : l.length = 7) : ∃ a b c d e f g, l = [a, b, c, d, e, f, g] := by
  match l, h with
  | [a, b, c, d, e, f, g], _ => exact ⟨a, b, c, d, e, f, g, rfl⟩
theorem open_pos {H : Type} {enc : TypeId × Value → H} {w : World} {base : Nat} {spare : Nat → Bool} {held : Bool} {n : Nat} {cs : List Value} {x : DataW H × List MemPlace}
    (h : DataW.trod enc Try.prog w base spare held n 23 cs = some x) (hc : cs.length = 3) :
    ∃ a b c : Int, cs = [.int .i64 a, .int .i64 b, .int .i64 c] ∧ (Lit.int .i64 a).wf = true ∧ (Lit.int .i64 b).wf = true ∧ (Lit.int .i64 c).wf = true := by
  obtain ⟨v0, v1, v2, rfl⟩ := list3 hc
  obtain ⟨y0, y1, y2, m, -, -, h0, h1, h2⟩ := Go.Deep.trod_struct3 Try.underlying23 h
  simp only [cells2, List.drop_zero, List.drop_succ_cons, List.take_succ_cons, List.take_zero] at h0 h1 h2
  obtain ⟨a, e0, -, w0⟩ := DataW.trod_int Try.underlying2 h0
  obtain ⟨b, e1, -, w1⟩ := DataW.trod_int Try.underlying2 h1
  obtain ⟨c, e2, -, w2⟩ := DataW.trod_int Try.underlying2 h2
  simp only [List.cons.injEq, and_true] at e0 e1 e2
  subst e0 e1 e2
  exact ⟨a, b, c, rfl, w0, w1, w2⟩
theorem open_move {H : Type} {enc : TypeId × Value → H} {w : World} {base : Nat} {spare : Nat → Bool} {held : Bool} {n : Nat} {cs : List Value} {x : DataW H × List MemPlace}
    (h : DataW.trod enc Try.prog w base spare held n 27 cs = some x) (hc : cs.length = 7) :
    ∃ k a b c d e r : Int, cs = [.int .i64 k, .int .i64 a, .int .i64 b, .int .i64 c, .int .i64 d, .int .i64 e, .int .i64 r] ∧ (Lit.int .i64 k).wf = true ∧ (Lit.int .i64 a).wf = true ∧ (Lit.int .i64 b).wf = true ∧
      (Lit.int .i64 c).wf = true ∧ (Lit.int .i64 d).wf = true ∧ (Lit.int .i64 e).wf = true ∧ (Lit.int .i64 r).wf = true := by
  obtain ⟨v0, v1, v2, v3, v4, v5, v6, rfl⟩ := list7 hc
  obtain ⟨y0, y1, y2, y3, m, -, -, h0, h1, h2, h3⟩ := Go.Joins.trod_struct4 Try.underlying27 h
  simp only [cells2, cells3, cells23, cells25, List.drop_zero, List.drop_succ_cons, List.take_succ_cons, List.take_zero] at h0 h1 h2 h3
  obtain ⟨k, e0, -, w0⟩ := DataW.trod_int Try.underlying3 h0
  obtain ⟨a, b, c, e1, wa, wb, wc⟩ := open_pos h1 rfl
  obtain ⟨z0, z1, m2, -, -, g0, g1⟩ := Go.ChangeShapes.trod_struct2 Try.underlying25 h2
  simp only [cells2, List.drop_zero, List.drop_succ_cons, List.take_succ_cons, List.take_zero] at g0 g1
  obtain ⟨d, f0, -, wd⟩ := DataW.trod_int Try.underlying2 g0
  obtain ⟨e, f1, -, we⟩ := DataW.trod_int Try.underlying2 g1
  obtain ⟨r, e3, -, wr⟩ := DataW.trod_int Try.underlying2 h3
  simp only [List.cons.injEq, and_true] at e0 e1 f0 f1 e3
  obtain ⟨e1a, e1b, e1c⟩ := e1
  subst e0 e1a e1b e1c f0 f1 e3
  exact ⟨k, a, b, c, d, e, r, rfl, w0, wa, wb, wc, wd, we, wr⟩
theorem open_moves {H : Type} {enc : TypeId × Value → H} {w : World} {base : Nat} {spare : Nat → Bool} {held : Bool} {n : Nat} {cs : List Value} {x : DataW H × List MemPlace}
    (h : DataW.trod enc Try.prog w base spare held n 37 cs = some x) :
    ∃ (A : Option Addr) (len cap : Nat) (l : List F.S27), cs = [.slice A len cap] ∧ l.length = len ∧ len ≤ cap ∧ Go.Proofs.YtblonchpophnkaaW.PrintWords.Kd.C F.k27 w A len l ∧ ∀ m ∈ l, Pure.Move64 m := by
  rcases Go.Deep.open_slice Try.underlying37 h with ⟨rfl, -⟩ | ⟨a, len, cap, m, n', D, Pl, rfl, -, hl, hm, hmm, -, hi⟩
  · exact ⟨none, 0, 0, [], rfl, rfl, Nat.le_refl _, ⟨rfl, by omega, fun h => absurd h (by omega)⟩, by simp⟩
  · have hle : len ≤ m := by rw [hmm]; split <;> omega
    have el : ∀ i, ∃ s : F.S27, i < len → (∀ j, j < 7 → w.cell? (a.add (i * 7 + j)) = [Value.int .i64 s.f0, .int .i64 s.f1.f0, .int .i64 s.f1.f1, .int .i64 s.f1.f2, .int .i64 s.f2.f0, .int .i64 s.f2.f1, .int .i64 s.f3][j]?) ∧ Pure.Move64 s := by
      intro i
      by_cases hil : i < len
      · obtain ⟨cs', hc, ht⟩ := hi i (by omega)
        rw [cells27] at hc
        obtain ⟨-, hcl, hat⟩ := World.cells?_some hc
        obtain ⟨kd, tx, ty, tz, cx, cy, rt, rfl, w4, w5, w6, w7, w8, w9, w10⟩ := open_move ht hcl
        refine ⟨⟨kd, ⟨tx, ty, tz⟩, ⟨cx, cy⟩, rt⟩, fun _ => ⟨fun j hj => ?_, ⟨bounds_i64 w5, bounds_i64 w6, bounds_i64 w7⟩, bounds_i64 w8, bounds_i64 w9⟩⟩
        rw [← Go.Deep.add_add]
        exact hat j hj
      · exact ⟨F.z27, fun h => absurd h hil⟩
    obtain ⟨f, hf⟩ := Classical.axiomOfChoice el
    refine ⟨some a, len, cap, (List.range len).map f, rfl, by simp, hl, ⟨by simp, by unfold maxLen at hm; omega, fun _ => ⟨a, rfl, fun j p hj => ?_⟩⟩, ?_⟩
    · obtain ⟨hjl, hp⟩ := List.getElem?_eq_some_iff.1 hj
      simp only [List.length_map, List.length_range] at hjl
      have hp' : f j = p := by simpa using hp
      subst hp'
      refine ⟨_, rfl, F.k27_mk w (f j), fun i u hu => ?_⟩
      have hlt : i < 7 := (List.getElem?_eq_some_iff.1 hu).1
      exact ((hf j hjl).1 i hlt).trans hu
    · intro m hm'
      obtain ⟨j, hj, rfl⟩ := List.mem_map.1 hm'
      exact (hf j (List.mem_range.1 hj)).2
set_option maxRecDepth 100000 in
theorem lifted (os : Os) (started : os.Started) (H : Type) (enc : TypeId × Value → H) :
    ReturnsInHanded {} Try.checked os 10 .any (Rows.interpolateMotionsSpec.pre6 enc Try.prog Try.f10 Rows.interpolateMotionsRow.domain false) (Rows.interpolateMotionsSpec.post enc Try.prog Try.f10 false true false false) := by
  refine returnsInHanded_of_change_sized (C := Try.checked) own started (by kernel_rfl) Try.func10
    (ChangeSpec.witness6 (enc := enc) (C := Try.checked) false ⟨#[], #[.agg #[.int .i64 0, .int .i64 0, .int .i64 0], .slice none 0 0, .int .i64 0], []⟩ 8 (by kernel_rfl) (by kernel_rfl) (by kernel_rfl) (by kernel_rfl)) ?_
  intro W base args ds gs before hval0 hW hcnd hsz0 _
  have hval : ∀ (j : Nat) t v, Try.f10.params[j]? = some t → args[j]? = some v → Value.okWide Try.prog W .any base t v := hval0
  have hW' := hW
  obtain ⟨p, q, hA0, hV, rfl, hfz, hnd⟩ := hW
  have hA : DataW.TrodAll enc Try.prog W 0 (fun _ => true) true Try.f10.params.toList args.toList ds p := hA0
  rw [Try.params10] at hA hval
  obtain ⟨v0, vs0, d0, ds0, p0, q0, hargs, rfl, rfl, h0, r0⟩ := trodAll_cons hA
  obtain ⟨v1, vs1, d1, ds1, p1, q1, rfl, rfl, rfl, h1, r1⟩ := trodAll_cons r0
  obtain ⟨v2, vs2, d2, ds2, p2, q2, rfl, rfl, rfl, h2, r2⟩ := trodAll_cons r1
  obtain ⟨rfl, rfl, rfl⟩ := trodAll_nil r2
  obtain rfl : args = #[v0, v1, v2] := by cases args; simp_all
  obtain ⟨rfl, rfl⟩ := trodVars_none hV
  have lt0 : ∀ x ∈ p0, x.block < W.heap.size := by obtain ⟨m, hm⟩ := h0; exact DataW.trod_lt m _ _ _ hm
  have lt1 : ∀ x ∈ p1, x.block < W.heap.size := by obtain ⟨m, hm⟩ := h1; exact DataW.trod_lt m _ _ _ hm
  have k0 := h0
  have k1 := h1
  obtain ⟨cs0, rfl, sz0⟩ := okWide_struct Try.underlying23 (hval 0 23 v0 rfl rfl)
  obtain ⟨a1, len1, cap1, rfl⟩ := okWide_slice Try.underlying37 (hval 1 37 v1 rfl rfl)
  obtain ⟨a2, rfl, rfl, rfl, w2⟩ := open_int Try.underlying3 (hval 2 3 v2 rfl rfl) h2
  obtain ⟨u0, hf0⟩ := h0
  obtain ⟨u1, hf1⟩ := h1
  obtain ⟨fx, fy, fz, ec0, w11, w12, w13⟩ := open_pos hf0 (by rw [cells23] at sz0; simpa [Value.cells] using sz0)
  obtain rfl : cs0 = #[.int .i64 fx, .int .i64 fy, .int .i64 fz] := by cases cs0; simpa [Value.cells] using ec0
  obtain ⟨A, len, cap, l, ec1, el, hlc, hC, hM⟩ := open_moves hf1
  simp [Value.cells] at ec1
  obtain ⟨rfl, rfl, rfl⟩ := ec1
  subst el
  clear hA0 hval0 hsz0
  refine (F.swarflaw33_InterpolateMotions.calls 100000 fx fy fz _ _ l a2 true W hC hlc (Pure.law_motions l hM a2 fx fy fz (bounds_i64 w11) (bounds_i64 w12) (bounds_i64 w13))).mono ?_
  rintro e W' ⟨rfl, bel⟩
  exact ⟨_, rfl, _, _, _, [], _, [], hW', trodAll_mk1 (shut_bool Try.underlying4 _), (trodAll_cons_mk (Below.trod laidOut (by kernel_rfl) (of_decide_eq_true (by kernel_rfl)) k0 bel lt0) (trodAll_cons_mk (Below.trod laidOut (by kernel_rfl) (of_decide_eq_true (by kernel_rfl)) k1 bel lt1) (trodAll_cons_mk (shut_int Try.underlying3 w2) trodAll_mk0))), rfl, bel.frame _, fun h => by cases h⟩
theorem over : Rows.interpolateMotionsRow.holds Try.pinned (OpenSpec.ofChange Rows.interpolateMotionsSpec) :=
  OpenClaim.holds_of_wide 10 Try.f10 rfl rfl rfl rfl rfl rfl rfl ⟨rfl, rfl, rfl, rfl, rfl⟩ rfl rfl rfl rfl rfl (by kernel_rfl) Try.func10 (by kernel_rfl)
    (of_decide_eq_true (by kernel_rfl)) (by unfold Func.isWrapper; first | (rw [if_pos (by decide +kernel)]; kernel_rfl) | (rw [if_neg (by decide +kernel)]; exact ⟨rfl, rfl⟩))
    (fun os started H enc _ => lifted os started H enc)
theorem proved : Rows.InterpolateMotionsSaid := over
#print axioms proved
end Go.Proofs.Ytblonchpophnkaa.interpolateMotions
namespace Go.Proofs.Ytblonchpophnkaa
/-- The row, under a short name, for the claim. -/
theorem interpolateMotions_holds : Rows.InterpolateMotionsSaid := interpolateMotions.proved
end Go.Proofs.Ytblonchpophnkaa
