-- The machine side of a proof, written by a program of the session out of Lean's print of the loaded functions. Lean checks it.
import Derived.Test.YtblonchpophnkaaWc
import Derived.Test.YtblonchpophnkaaFx0
import Derived.Test.YtblonchpophnkaaFx2
import Derived.Test.YtblonchpophnkaaFx5
import Derived.Test.YtblonchpophnkaaFx8
import Derived.Test.YtblonchpophnkaaFx9
import Derived.Test.YtblonchpophnkaaFx10
namespace Go.Proofs.Ytblonchpophnkaa.F
open Go.RowKit Go.Proofs.YtblonchpophnkaaW.PrintWords Go.Proofs.YtblonchpophnkaaW.PrintLast Go.Proofs.YtblonchpophnkaaW.PrintMore
attribute [local go_sem] max2_int min2_int max_two min_two max_three min_three max_four min_four   -- for this text's walks alone
set_option linter.unusedVariables false
set_option linter.unusedSimpArgs false
mutual
def interpolate_Arc.l0 : Nat → Int → Int → Int → Int → List (S23) → Int → Int → Int → Int → Int → Int → Int → Int → Int → Int → Int → Int → Option ((List (S23)) × Int)
 | 0, _, _, _, _, _, _, _, _, _, _, _, _, _, _, _, _, _ => none
 | k + 1, x8, x10, x11, x12, x13, x44, x45, x143000, x143001, x143002, x144000, x144001, x144002, x144003, x144004, x144005, x144006 => if x45 < x44 then (interpolate_Arc.l1 k x8 x10 x11 x12 x13 x45 1 x44 x45 x143000 x143001 x143002 x144000 x144001 x144002 x144003 x144004 x144005 x144006) else (some (x13, 0))
def interpolate_Arc.l1 : Nat → Int → Int → Int → Int → List (S23) → Int → Int → Int → Int → Int → Int → Int → Int → Int → Int → Int → Int → Int → Int → Option ((List (S23)) × Int)
 | 0, _, _, _, _, _, _, _, _, _, _, _, _, _, _, _, _, _, _, _ => none
 | k + 1, x8, x10, x11, x12, x13, x14, x15, x44, x45, x143000, x143001, x143002, x144000, x144001, x144002, x144003, x144004, x144005, x144006 => if x15 ≤ x11 then (if (wrap64 ((wrap64 (x11 * x11)) + (wrap64 (x15 * x15)))) = 0 then (none) else (if x144000 = 3 then ((interpolate_turned.f k (wrap64 (Int.tdiv (wrap64 (x10 * (wrap64 ((wrap64 (x11 * x11)) - (wrap64 (x15 * x15)))))) (wrap64 ((wrap64 (x11 * x11)) + (wrap64 (x15 * x15)))))) (wrap64 (-(wrap64 (Int.tdiv (wrap64 ((wrap64 ((wrap64 (2 * x10)) * x15)) * x11)) (wrap64 ((wrap64 (x11 * x11)) + (wrap64 (x15 * x15)))))))) (wrap64 ((wrap64 (x8 - x14)) + 4))).bind fun bt149 => ((interpolate_floor.f (wrap64 ((wrap64 (x144003 - x143002)) * (wrap64 ((x13.length : Int) + 1)))) x12).bind fun t151 => (if x13.length < 5864062014805 then (interpolate_Arc.l1 k x8 x10 x11 x12 (x13 ++ [(⟨wrap64 (x144004 + bt149.1), wrap64 (x144005 + bt149.2), wrap64 (x143002 + t151)⟩ : S23)]) x14 (wrap64 (x15 + 1)) x44 x45 x143000 x143001 x143002 x144000 x144001 x144002 x144003 x144004 x144005 x144006) else (none)))) else ((interpolate_turned.f k (wrap64 (Int.tdiv (wrap64 (x10 * (wrap64 ((wrap64 (x11 * x11)) - (wrap64 (x15 * x15)))))) (wrap64 ((wrap64 (x11 * x11)) + (wrap64 (x15 * x15)))))) (wrap64 (Int.tdiv (wrap64 ((wrap64 ((wrap64 (2 * x10)) * x15)) * x11)) (wrap64 ((wrap64 (x11 * x11)) + (wrap64 (x15 * x15)))))) (wrap64 (x8 + x14))).bind fun bt155 => ((interpolate_floor.f (wrap64 ((wrap64 (x144003 - x143002)) * (wrap64 ((x13.length : Int) + 1)))) x12).bind fun t157 => (if x13.length < 5864062014805 then (interpolate_Arc.l1 k x8 x10 x11 x12 (x13 ++ [(⟨wrap64 (x144004 + bt155.1), wrap64 (x144005 + bt155.2), wrap64 (x143002 + t157)⟩ : S23)]) x14 (wrap64 (x15 + 1)) x44 x45 x143000 x143001 x143002 x144000 x144001 x144002 x144003 x144004 x144005 x144006) else (none)))))) else (interpolate_Arc.l0 k x8 x10 x11 x12 x13 x44 (wrap64 (x45 + 1)) x143000 x143001 x143002 x144000 x144001 x144002 x144003 x144004 x144005 x144006)
end
def interpolate_Arc.f (k : Nat) (a0_0 : Int) (a0_1 : Int) (a0_2 : Int) (a1_0 : Int) (a1_1 : Int) (a1_2 : Int) (a1_3 : Int) (a1_4 : Int) (a1_5 : Int) (a1_6 : Int) : Option ((List (S23)) × Int) := (interpolate_Quarters.f k a0_0 a0_1 a0_2 a1_0 a1_1 a1_2 a1_3 a1_4 a1_5 a1_6).bind fun bt144 => (if bt144.2 = 0 then ((interpolate_point.f k a0_0 a0_1 a0_2 a1_4 a1_5).bind fun bt146 => ((interpolate_Chords.f k (wrap64 (bt146.2))).bind fun t148 => (if (wrap64 (t148 * bt144.1)) > 20000 then (some (([] : List (S23)), 3)) else (interpolate_Arc.l0 k bt146.1 (wrap64 (bt146.2)) t148 (wrap64 (t148 * bt144.1)) ([] : List (S23)) bt144.1 0 a0_0 a0_1 a0_2 a1_0 a1_1 a1_2 a1_3 a1_4 a1_5 a1_6)))) else (some (([] : List (S23)), bt144.2)))
theorem interpolate_Arc.mono_l : ∀ k, (∀ y0 y1 y2 y3 y4 y5 y6 y7 y8 y9 y10 y11 y12 y13 y14 y15 y16, LeO (interpolate_Arc.l0 k y0 y1 y2 y3 y4 y5 y6 y7 y8 y9 y10 y11 y12 y13 y14 y15 y16) (interpolate_Arc.l0 (k + 1) y0 y1 y2 y3 y4 y5 y6 y7 y8 y9 y10 y11 y12 y13 y14 y15 y16)) ∧ (∀ y0 y1 y2 y3 y4 y5 y6 y7 y8 y9 y10 y11 y12 y13 y14 y15 y16 y17 y18, LeO (interpolate_Arc.l1 k y0 y1 y2 y3 y4 y5 y6 y7 y8 y9 y10 y11 y12 y13 y14 y15 y16 y17 y18) (interpolate_Arc.l1 (k + 1) y0 y1 y2 y3 y4 y5 y6 y7 y8 y9 y10 y11 y12 y13 y14 y15 y16 y17 y18))
 | 0 => ⟨fun _ _ _ _ _ _ _ _ _ _ _ _ _ _ _ _ _ r h => by simp [interpolate_Arc.l0] at h, fun _ _ _ _ _ _ _ _ _ _ _ _ _ _ _ _ _ _ _ r h => by simp [interpolate_Arc.l1] at h⟩
 | k + 1 => by
  obtain ⟨ih0, ih1⟩ := interpolate_Arc.mono_l k
  refine ⟨?_, ?_⟩
  ·intro y0 y1 y2 y3 y4 y5 y6 y7 y8 y9 y10 y11 y12 y13 y14 y15 y16
   unfold interpolate_Arc.l0
   repeat' first
   | (with_reducible exact ih0 _ _ _ _ _ _ _ _ _ _ _ _ _ _ _ _ _)
   | (with_reducible exact ih1 _ _ _ _ _ _ _ _ _ _ _ _ _ _ _ _ _ _ _)
   | (with_reducible exact interpolate_Chords.mono _ _)
   | (with_reducible exact interpolate_Quarters.mono _ _ _ _ _ _ _ _ _ _ _)
   | (with_reducible exact interpolate_point.mono _ _ _ _ _ _)
   | (with_reducible exact interpolate_turned.mono _ _ _ _)
   | (with_reducible exact LeO.refl _)
   | (with_reducible exact LeO.none _)
   | (with_reducible refine LeO.ite ?_ ?_)
   | (with_reducible refine LeO.bind ?_ (fun _ => ?_))
   | exact ih0 _ _ _ _ _ _ _ _ _ _ _ _ _ _ _ _ _
   | exact ih1 _ _ _ _ _ _ _ _ _ _ _ _ _ _ _ _ _ _ _
   | exact interpolate_Chords.mono _ _
   | exact interpolate_Quarters.mono _ _ _ _ _ _ _ _ _ _ _
   | exact interpolate_point.mono _ _ _ _ _ _
   | exact interpolate_turned.mono _ _ _ _
   | exact LeO.none _
   | refine LeO.ite ?_ ?_
   | refine LeO.bind ?_ (fun _ => ?_)
  ·intro y0 y1 y2 y3 y4 y5 y6 y7 y8 y9 y10 y11 y12 y13 y14 y15 y16 y17 y18
   unfold interpolate_Arc.l1
   repeat' first
   | (with_reducible exact ih0 _ _ _ _ _ _ _ _ _ _ _ _ _ _ _ _ _)
   | (with_reducible exact ih1 _ _ _ _ _ _ _ _ _ _ _ _ _ _ _ _ _ _ _)
   | (with_reducible exact interpolate_Chords.mono _ _)
   | (with_reducible exact interpolate_Quarters.mono _ _ _ _ _ _ _ _ _ _ _)
   | (with_reducible exact interpolate_point.mono _ _ _ _ _ _)
   | (with_reducible exact interpolate_turned.mono _ _ _ _)
   | (with_reducible exact LeO.refl _)
   | (with_reducible exact LeO.none _)
   | (with_reducible refine LeO.ite ?_ ?_)
   | (with_reducible refine LeO.bind ?_ (fun _ => ?_))
   | exact ih0 _ _ _ _ _ _ _ _ _ _ _ _ _ _ _ _ _
   | exact ih1 _ _ _ _ _ _ _ _ _ _ _ _ _ _ _ _ _ _ _
   | exact interpolate_Chords.mono _ _
   | exact interpolate_Quarters.mono _ _ _ _ _ _ _ _ _ _ _
   | exact interpolate_point.mono _ _ _ _ _ _
   | exact interpolate_turned.mono _ _ _ _
   | exact LeO.none _
   | refine LeO.ite ?_ ?_
   | refine LeO.bind ?_ (fun _ => ?_)
theorem interpolate_Arc.mono : ∀ a0 a1 a2 a3 a4 a5 a6 a7 a8 a9 k, LeO (interpolate_Arc.f k a0 a1 a2 a3 a4 a5 a6 a7 a8 a9) (interpolate_Arc.f (k + 1) a0 a1 a2 a3 a4 a5 a6 a7 a8 a9) := by
 intro a0 a1 a2 a3 a4 a5 a6 a7 a8 a9 k
 obtain ⟨ih0, ih1⟩ := interpolate_Arc.mono_l k
 unfold interpolate_Arc.f
 repeat' first
   | (with_reducible exact ih0 _ _ _ _ _ _ _ _ _ _ _ _ _ _ _ _ _)
   | (with_reducible exact ih1 _ _ _ _ _ _ _ _ _ _ _ _ _ _ _ _ _ _ _)
   | (with_reducible exact interpolate_Chords.mono _ _)
   | (with_reducible exact interpolate_Quarters.mono _ _ _ _ _ _ _ _ _ _ _)
   | (with_reducible exact interpolate_point.mono _ _ _ _ _ _)
   | (with_reducible exact interpolate_turned.mono _ _ _ _)
   | (with_reducible exact LeO.refl _)
   | (with_reducible exact LeO.none _)
   | (with_reducible refine LeO.ite ?_ ?_)
   | (with_reducible refine LeO.bind ?_ (fun _ => ?_))
   | exact ih0 _ _ _ _ _ _ _ _ _ _ _ _ _ _ _ _ _
   | exact ih1 _ _ _ _ _ _ _ _ _ _ _ _ _ _ _ _ _ _ _
   | exact interpolate_Chords.mono _ _
   | exact interpolate_Quarters.mono _ _ _ _ _ _ _ _ _ _ _
   | exact interpolate_point.mono _ _ _ _ _ _
   | exact interpolate_turned.mono _ _ _ _
   | exact LeO.none _
   | refine LeO.ite ?_ ?_
   | refine LeO.bind ?_ (fun _ => ?_)
def interpolate_Arc.T17 : Bool × List (List Nat × List Nat) := (true, [([], []), ([], []), ([], []), ([1, 2], [1, 2]), ([], []), ([], []), ([4, 5], [4, 5]), ([3, 6], [3, 6]), ([0, 7], [0, 7]), ([], []), ([], []), ([9, 10], [9, 10]), ([], []), ([], []), ([12, 13], [12, 13]), ([11, 14], [11, 14]), ([8, 15], [8, 15]), ([], []), ([17], [17]), ([], []), ([18, 19], [18, 19]), ([], []), ([20, 21], [20, 21]), ([], []), ([], []), ([23, 24], [23, 24]), ([], []), ([], []), ([26, 27], [26, 27]), ([25, 28], [25, 28]), ([22, 29], [22, 29]), ([16, 0, 1, 2, 3, 4, 5, 6, 7, 8, 9, 10, 11, 12, 13, 14, 15, 16], [16]), ([30, 31, 0, 1, 2, 3, 4, 5, 6, 7, 8, 9, 10, 11, 12, 13, 14, 15, 16, 17, 18, 19, 20, 21, 22, 23, 24, 25, 26, 27, 28, 29, 30, 31], [30])])
def interpolate_Arc.B17 : List Nat := [0, 0, 0, 6, 0, 0, 48, 126, 255, 0, 0, 1536, 0, 0, 12288, 32256, 65535, 0, 131072, 0, 917504, 0, 4063232, 0, 0, 25165824, 0, 0, 201326592, 528482304, 1073610752, 131071, 4294967295]
theorem interpolate_Arc.tab17 : rtab .any (opsOf Try.f18 17) = interpolate_Arc.T17 := by kernel_rfl
theorem interpolate_Arc.bits17 : waitsOk interpolate_Arc.T17.2 interpolate_Arc.B17 = true := by kernel_rfl
def interpolate_Arc.T22 : Bool × List (List Nat × List Nat) := (true, [([], []), ([], []), ([1], [1]), ([2], [2]), ([], []), ([3, 4], [3, 4]), ([], []), ([6], [6]), ([7], [7]), ([], []), ([8, 9], [8, 9]), ([], []), ([11], [11]), ([], []), ([13], [13]), ([14], [14]), ([], []), ([16], [16]), ([15, 17], [15, 17]), ([], []), ([18, 19], [18, 19]), ([], []), ([20, 21], [20, 21]), ([12, 22], [12, 22]), ([5, 10, 23], [5, 10, 23]), ([24], [24]), ([0, 25, 22], [0, 25]), ([26, 26, 0, 1, 2, 3, 4, 5, 6, 7, 8, 9, 10, 11, 12, 13, 14, 15, 16, 17, 18, 19, 20, 21, 22, 23, 24, 25, 26], [0, 26])])
def interpolate_Arc.B22 : List Nat := [0, 0, 2, 6, 0, 30, 0, 64, 192, 0, 960, 0, 2048, 0, 8192, 24576, 0, 65536, 253952, 0, 1040384, 0, 4186112, 8386560, 16777214, 33554430, 67108863, 134217727]
theorem interpolate_Arc.tab22 : rtab .any (opsOf Try.f18 22) = interpolate_Arc.T22 := by kernel_rfl
theorem interpolate_Arc.bits22 : waitsOk interpolate_Arc.T22.2 interpolate_Arc.B22 = true := by kernel_rfl
set_option maxHeartbeats 8000000 in
set_option maxRecDepth 100000 in
theorem interpolate_Arc.calls (k : Nat) (a0_0 : Int) (a0_1 : Int) (a0_2 : Int) (a1_0 : Int) (a1_1 : Int) (a1_2 : Int) (a1_3 : Int) (a1_4 : Int) (a1_5 : Int) (a1_6 : Int) (r1 : List (S23)) (r2 : Int) (w : World) (h : interpolate_Arc.f k a0_0 a0_1 a0_2 a1_0 a1_1 a1_2 a1_3 a1_4 a1_5 a1_6 = some (r1, r2)) :
  Calls Try.prog 18 #[.agg #[.int .i64 a0_0, .int .i64 a0_1, .int .i64 a0_2], .agg #[.int .i64 a1_0, .int .i64 a1_1, .int .i64 a1_2, .int .i64 a1_3, .int .i64 a1_4, .int .i64 a1_5, .int .i64 a1_6]] w fun e w' => ∃ v0_ : Value, e = .returned (.tuple #[v0_, .int .i64 r2]) ∧ Kd.R k23 23 w' w.heap.size (fun _ => True) v0_ r1 ∧ Below w.heap.size w w' := by
 have hu23 := Try.underlying23
 have hu27 := Try.underlying27
 have hu25 := Try.underlying25
 have HB := Aside0.mk (Below.refl w.heap.size w)
 have H : ((interpolate_Quarters.f k a0_0 a0_1 a0_2 a1_0 a1_1 a1_2 a1_3 a1_4 a1_5 a1_6).bind fun bt144 => (if bt144.2 = 0 then ((interpolate_point.f k a0_0 a0_1 a0_2 a1_4 a1_5).bind fun bt146 => ((interpolate_Chords.f k (wrap64 (bt146.2))).bind fun t148 => (if (wrap64 (t148 * bt144.1)) > 20000 then (some (([] : List (S23)), 3)) else (interpolate_Arc.l0 k bt146.1 (wrap64 (bt146.2)) t148 (wrap64 (t148 * bt144.1)) ([] : List (S23)) bt144.1 0 a0_0 a0_1 a0_2 a1_0 a1_1 a1_2 a1_3 a1_4 a1_5 a1_6)))) else (some (([] : List (S23)), bt144.2)))) = some (r1, r2) := h
 clear h
 replace H := Option.bind_eq_some_iff.mp H
 obtain ⟨⟨t144, t145⟩, A30, H⟩ := H
 replace H : (if t145 = 0 then ((interpolate_point.f k a0_0 a0_1 a0_2 a1_4 a1_5).bind fun bt146 => ((interpolate_Chords.f k (wrap64 (bt146.2))).bind fun t148 => (if (wrap64 (t148 * t144)) > 20000 then (some (([] : List (S23)), 3)) else (interpolate_Arc.l0 k bt146.1 (wrap64 (bt146.2)) t148 (wrap64 (t148 * t144)) ([] : List (S23)) t144 0 a0_0 a0_1 a0_2 a1_0 a1_1 a1_2 a1_3 a1_4 a1_5 a1_6)))) else (some (([] : List (S23)), t145))) = some (r1, r2) := H
 have A3 := Aside0.mk A30
 clear A30
 by_cases c4 : t145 = 0
 ·rw [if_pos c4] at H
  have c4b0 : (t145 == 0) = true := beq_iff_eq.mpr c4
  have c4b1 : (t145 != 0) = false := bne_eq_false_iff_eq.mpr c4
  clear c4
  replace H := Option.bind_eq_some_iff.mp H
  obtain ⟨⟨t146, t147⟩, A50, H⟩ := H
  replace H : ((interpolate_Chords.f k (wrap64 (t147))).bind fun t148 => (if (wrap64 (t148 * t144)) > 20000 then (some (([] : List (S23)), 3)) else (interpolate_Arc.l0 k t146 (wrap64 (t147)) t148 (wrap64 (t148 * t144)) ([] : List (S23)) t144 0 a0_0 a0_1 a0_2 a1_0 a1_1 a1_2 a1_3 a1_4 a1_5 a1_6))) = some (r1, r2) := H
  have A5 := Aside0.mk A50
  clear A50
  replace H := Option.bind_eq_some_iff.mp H
  obtain ⟨t148, A60, H⟩ := H
  replace H : (if (wrap64 (t148 * t144)) > 20000 then (some (([] : List (S23)), 3)) else (interpolate_Arc.l0 k t146 (wrap64 (t147)) t148 (wrap64 (t148 * t144)) ([] : List (S23)) t144 0 a0_0 a0_1 a0_2 a1_0 a1_1 a1_2 a1_3 a1_4 a1_5 a1_6)) = some (r1, r2) := H
  have A6 := Aside0.mk A60
  clear A60
  by_cases c7 : (wrap64 (t148 * t144)) > 20000
  ·rw [if_pos c7] at H
   have c7b0 : decide (20000 < (wrap64 (t148 * t144))) = true := decide_eq_true c7
   clear c7
   simp only [Option.some.injEq, Prod.mk.injEq] at H
   obtain ⟨rfl, rfl⟩ := H
   go_enter Try.func18, Try.ntmps18
   go_wp2_with (first | ((with_reducible refine gate_dst (N := 2) rfl ?_); refine box_event ?hg (N := 2) ?hd (cs := #[.int .i64 a0_0, .int .i64 a0_1, .int .i64 a0_2]) (t := 23) ?hr ?_; (case hd => rfl); (case hg => rfl); (case hr => first | (go_simp; done) | (go_simp; rfl)); intro gb142 hg w8 hbox hb; have n0_ := Aside0.mk (below_step (by first | exact HB.out | exact pw_below_drewN HB.out _) hb); have n1_ := Aside0.mk (hbox); have n2_ := Aside0.mk ((by rw [hg]; exact (below_size (by first | exact HB.out | exact pw_below_drewN HB.out _)) : w.heap.size ≤ gb142)); have n3_ := Aside0.mk ((by rw [hg]; exact (below_size (by first | exact HB.out | exact pw_below_drewN HB.out _)) : w.heap.size ≤ gb142)); clear HB; have HB := n0_; have BK142 := n1_; have GW142 := n2_; have GE142 := n3_; clear n0_ n1_ n2_ n3_; clear hb hbox hg) | ((with_reducible refine gate_dst (N := 3) rfl ?_); refine box_event ?hg (N := 3) ?hd (cs := #[.int .i64 a1_0, .int .i64 a1_1, .int .i64 a1_2, .int .i64 a1_3, .int .i64 a1_4, .int .i64 a1_5, .int .i64 a1_6]) (t := 27) ?hr ?_; (case hd => rfl); (case hg => rfl); (case hr => first | (go_simp; done) | (go_simp; rfl)); intro gb143 hg w9 hbox hb; have n0_ := Aside0.mk (blk_below (by exact BK142.out) hb); have n1_ := Aside0.mk (below_step (by first | exact HB.out | exact pw_below_drewN HB.out _) hb); have n2_ := Aside0.mk (hbox); have n3_ := Aside0.mk ((by rw [hg]; exact (below_size (by first | exact HB.out | exact pw_below_drewN HB.out _)) : w.heap.size ≤ gb143)); have n4_ := Aside0.mk ((by rw [hg]; exact (below_size (by first | exact HB.out | exact pw_below_drewN HB.out _)) : w.heap.size ≤ gb143)); have n5_ := Aside0.mk ((by rw [hg]; exact Nat.ne_of_lt (blk_lt (g := gb142) (o := .cells #[.int .i64 a0_0, .int .i64 a0_1, .int .i64 a0_2] 23 (0, 0)) (by (with_reducible repeat (first | refine blk_drewN ?_ _ | refine blk_drew ?_ | refine blk_alloc ?_ _)); exact BK142.out)) : gb142 ≠ gb143)); have n6_ := Aside0.mk ((by rw [hg]; exact Nat.ne_of_gt (blk_lt (g := gb142) (o := .cells #[.int .i64 a0_0, .int .i64 a0_1, .int .i64 a0_2] 23 (0, 0)) (by (with_reducible repeat (first | refine blk_drewN ?_ _ | refine blk_drew ?_ | refine blk_alloc ?_ _)); exact BK142.out)) : gb143 ≠ gb142)); clear BK142; clear HB; have BK142 := n0_; have HB := n1_; have BK143 := n2_; have GW143 := n3_; have GE143 := n4_; have NB142_143 := n5_; have NB143_142 := n6_; clear n0_ n1_ n2_ n3_ n4_ n5_ n6_; clear hb hbox hg; have hnb10 := NB142_143.out; have hnc10 := NB143_142.out; obtain ⟨hcz11_0, hcz11_1, hcz11_2⟩ := cells3 BK142.out; obtain ⟨hcz12_0, hcz12_1, hcz12_2, hcz12_3, hcz12_4, hcz12_5, hcz12_6⟩ := cells7 BK143.out) | ((with_reducible refine gate_callee (f := 12) rfl ?_); refine goesL_ (some 22) rfl rfl Try.func12 (by kernel_rfl) rfl #[.agg #[.int .i64 a0_0, .int .i64 a0_1, .int .i64 a0_2], .agg #[.int .i64 a1_0, .int .i64 a1_1, .int .i64 a1_2, .int .i64 a1_3, .int .i64 a1_4, .int .i64 a1_5, .int .i64 a1_6]] rfl (by (try simp only [List.map_toArray, List.map_cons, List.map_nil]); first | done | rfl | (simp only [List.length_drop, List.length_take]; rfl)) ?_; (with_reducible refine (interpolate_Quarters.calls k a0_0 a0_1 a0_2 a1_0 a1_1 a1_2 a1_3 a1_4 a1_5 a1_6 t144 t145 _ A3.out).mono ?_); rintro e w13 ⟨rfl, hb⟩; refine ⟨_, rfl, ?_⟩; have n0_ := Aside0.mk (blk_below (by exact BK142.out) hb); have n1_ := Aside0.mk (blk_below (by exact BK143.out) hb); have n2_ := Aside0.mk (below_step (by first | exact HB.out | exact pw_below_drewN HB.out _) hb); clear BK142; clear BK143; clear HB; have BK142 := n0_; have BK143 := n1_; have HB := n2_; clear n0_ n1_ n2_; (try clear hb); (try clear hb2); (try clear hk); (try clear hi); obtain ⟨hcz14_0, hcz14_1, hcz14_2⟩ := cells3 BK142.out; obtain ⟨hcz15_0, hcz15_1, hcz15_2, hcz15_3, hcz15_4, hcz15_5, hcz15_6⟩ := cells7 BK143.out) | ((with_reducible refine gate_callee (f := 30) rfl ?_); refine goesL_ (some 32) rfl rfl Try.func30 (by kernel_rfl) rfl #[.agg #[.int .i64 a0_0, .int .i64 a0_1, .int .i64 a0_2], .agg #[.int .i64 a1_4, .int .i64 a1_5]] rfl (by (try simp only [List.map_toArray, List.map_cons, List.map_nil]); first | done | rfl | (simp only [List.length_drop, List.length_take]; rfl)) ?_; (with_reducible refine (interpolate_point.calls k a0_0 a0_1 a0_2 a1_4 a1_5 t146 t147 _ A5.out).mono ?_); rintro e w16 ⟨rfl, hb⟩; refine ⟨_, rfl, ?_⟩; have n0_ := Aside0.mk (blk_below (by exact BK142.out) hb); have n1_ := Aside0.mk (blk_below (by exact BK143.out) hb); have n2_ := Aside0.mk (below_step (by first | exact HB.out | exact pw_below_drewN HB.out _) hb); clear BK142; clear BK143; clear HB; have BK142 := n0_; have BK143 := n1_; have HB := n2_; clear n0_ n1_ n2_; (try clear hb); (try clear hb2); (try clear hk); (try clear hi)) | ((with_reducible refine gate_callee (f := 16) rfl ?_); refine goesL_ (some 38) rfl rfl Try.func16 (by kernel_rfl) rfl #[.int .i64 (wrap64 (t147))] rfl (by (try simp only [List.map_toArray, List.map_cons, List.map_nil]); first | done | rfl | (simp only [List.length_drop, List.length_take]; rfl)) ?_; (with_reducible refine (interpolate_Chords.calls k (wrap64 (t147)) t148 _ A6.out).mono ?_); rintro e w' ⟨rfl, ⟨nd, rfl⟩⟩; refine ⟨_, rfl, ?_⟩))
   go_ret2
   exact ⟨_, by first | rfl | (simp [errW_none, errW_some] <;> rfl) | (simp [*, errW_none, errW_some] <;> rfl), by first | exact Kd.R_nil _ _ _ _ _ | exact Kd.N_nil _ _ _ _ _ | exact Kd.V_nil _ _ _ _ _ | exact Kd.Q_nil _ _ _ _ _ | exact Kd.S_nil _ _ _ _ _, by repeat (first | (with_reducible first | exact HB.out | apply below_alloc | apply pw_below_drewN | apply below_drew1 | refine below_set ?_ GE142.out | refine below_set ?_ GE143.out) | exact HB.out)⟩
  ·rw [if_neg c7] at H
   have c7b0 : decide (20000 < (wrap64 (t148 * t144))) = false := decide_eq_false c7
   clear c7
   have H' := Aside0.mk H
   clear H
   go_enter Try.func18, Try.ntmps18
   go_wp2_with (first | ((with_reducible refine gate_dst (N := 2) rfl ?_); refine box_event ?hg (N := 2) ?hd (cs := #[.int .i64 a0_0, .int .i64 a0_1, .int .i64 a0_2]) (t := 23) ?hr ?_; (case hd => rfl); (case hg => rfl); (case hr => first | (go_simp; done) | (go_simp; rfl)); intro gb142 hg w17 hbox hb; have n0_ := Aside0.mk (below_step (by first | exact HB.out | exact pw_below_drewN HB.out _) hb); have n1_ := Aside0.mk (hbox); have n2_ := Aside0.mk ((by rw [hg]; exact (below_size (by first | exact HB.out | exact pw_below_drewN HB.out _)) : w.heap.size ≤ gb142)); have n3_ := Aside0.mk ((by rw [hg]; exact (below_size (by first | exact HB.out | exact pw_below_drewN HB.out _)) : w.heap.size ≤ gb142)); clear HB; have HB := n0_; have BK142 := n1_; have GW142 := n2_; have GE142 := n3_; clear n0_ n1_ n2_ n3_; clear hb hbox hg) | ((with_reducible refine gate_dst (N := 3) rfl ?_); refine box_event ?hg (N := 3) ?hd (cs := #[.int .i64 a1_0, .int .i64 a1_1, .int .i64 a1_2, .int .i64 a1_3, .int .i64 a1_4, .int .i64 a1_5, .int .i64 a1_6]) (t := 27) ?hr ?_; (case hd => rfl); (case hg => rfl); (case hr => first | (go_simp; done) | (go_simp; rfl)); intro gb143 hg w18 hbox hb; have n0_ := Aside0.mk (blk_below (by exact BK142.out) hb); have n1_ := Aside0.mk (below_step (by first | exact HB.out | exact pw_below_drewN HB.out _) hb); have n2_ := Aside0.mk (hbox); have n3_ := Aside0.mk ((by rw [hg]; exact (below_size (by first | exact HB.out | exact pw_below_drewN HB.out _)) : w.heap.size ≤ gb143)); have n4_ := Aside0.mk ((by rw [hg]; exact (below_size (by first | exact HB.out | exact pw_below_drewN HB.out _)) : w.heap.size ≤ gb143)); have n5_ := Aside0.mk ((by rw [hg]; exact Nat.ne_of_lt (blk_lt (g := gb142) (o := .cells #[.int .i64 a0_0, .int .i64 a0_1, .int .i64 a0_2] 23 (0, 0)) (by (with_reducible repeat (first | refine blk_drewN ?_ _ | refine blk_drew ?_ | refine blk_alloc ?_ _)); exact BK142.out)) : gb142 ≠ gb143)); have n6_ := Aside0.mk ((by rw [hg]; exact Nat.ne_of_gt (blk_lt (g := gb142) (o := .cells #[.int .i64 a0_0, .int .i64 a0_1, .int .i64 a0_2] 23 (0, 0)) (by (with_reducible repeat (first | refine blk_drewN ?_ _ | refine blk_drew ?_ | refine blk_alloc ?_ _)); exact BK142.out)) : gb143 ≠ gb142)); clear BK142; clear HB; have BK142 := n0_; have HB := n1_; have BK143 := n2_; have GW143 := n3_; have GE143 := n4_; have NB142_143 := n5_; have NB143_142 := n6_; clear n0_ n1_ n2_ n3_ n4_ n5_ n6_; clear hb hbox hg; have hnb19 := NB142_143.out; have hnc19 := NB143_142.out; obtain ⟨hcz20_0, hcz20_1, hcz20_2⟩ := cells3 BK142.out; obtain ⟨hcz21_0, hcz21_1, hcz21_2, hcz21_3, hcz21_4, hcz21_5, hcz21_6⟩ := cells7 BK143.out) | ((with_reducible refine gate_callee (f := 12) rfl ?_); refine goesL_ (some 22) rfl rfl Try.func12 (by kernel_rfl) rfl #[.agg #[.int .i64 a0_0, .int .i64 a0_1, .int .i64 a0_2], .agg #[.int .i64 a1_0, .int .i64 a1_1, .int .i64 a1_2, .int .i64 a1_3, .int .i64 a1_4, .int .i64 a1_5, .int .i64 a1_6]] rfl (by (try simp only [List.map_toArray, List.map_cons, List.map_nil]); first | done | rfl | (simp only [List.length_drop, List.length_take]; rfl)) ?_; (with_reducible refine (interpolate_Quarters.calls k a0_0 a0_1 a0_2 a1_0 a1_1 a1_2 a1_3 a1_4 a1_5 a1_6 t144 t145 _ A3.out).mono ?_); rintro e w22 ⟨rfl, hb⟩; refine ⟨_, rfl, ?_⟩; have n0_ := Aside0.mk (blk_below (by exact BK142.out) hb); have n1_ := Aside0.mk (blk_below (by exact BK143.out) hb); have n2_ := Aside0.mk (below_step (by first | exact HB.out | exact pw_below_drewN HB.out _) hb); clear BK142; clear BK143; clear HB; have BK142 := n0_; have BK143 := n1_; have HB := n2_; clear n0_ n1_ n2_; (try clear hb); (try clear hb2); (try clear hk); (try clear hi); obtain ⟨hcz23_0, hcz23_1, hcz23_2⟩ := cells3 BK142.out; obtain ⟨hcz24_0, hcz24_1, hcz24_2, hcz24_3, hcz24_4, hcz24_5, hcz24_6⟩ := cells7 BK143.out) | ((with_reducible refine gate_callee (f := 30) rfl ?_); refine goesL_ (some 32) rfl rfl Try.func30 (by kernel_rfl) rfl #[.agg #[.int .i64 a0_0, .int .i64 a0_1, .int .i64 a0_2], .agg #[.int .i64 a1_4, .int .i64 a1_5]] rfl (by (try simp only [List.map_toArray, List.map_cons, List.map_nil]); first | done | rfl | (simp only [List.length_drop, List.length_take]; rfl)) ?_; (with_reducible refine (interpolate_point.calls k a0_0 a0_1 a0_2 a1_4 a1_5 t146 t147 _ A5.out).mono ?_); rintro e w25 ⟨rfl, hb⟩; refine ⟨_, rfl, ?_⟩; have n0_ := Aside0.mk (blk_below (by exact BK142.out) hb); have n1_ := Aside0.mk (blk_below (by exact BK143.out) hb); have n2_ := Aside0.mk (below_step (by first | exact HB.out | exact pw_below_drewN HB.out _) hb); clear BK142; clear BK143; clear HB; have BK142 := n0_; have BK143 := n1_; have HB := n2_; clear n0_ n1_ n2_; (try clear hb); (try clear hb2); (try clear hk); (try clear hi)) | ((with_reducible refine gate_callee (f := 16) rfl ?_); refine goesL_ (some 38) rfl rfl Try.func16 (by kernel_rfl) rfl #[.int .i64 (wrap64 (t147))] rfl (by (try simp only [List.map_toArray, List.map_cons, List.map_nil]); first | done | rfl | (simp only [List.length_drop, List.length_take]; rfl)) ?_; (with_reducible refine (interpolate_Chords.calls k (wrap64 (t147)) t148 _ A6.out).mono ?_); rintro e w' ⟨rfl, ⟨nd, rfl⟩⟩; refine ⟨_, rfl, ?_⟩))
   go_loopg [13, 45] k (fun kq v13 v45 w' => ∃ (x13_1 : List (S23)) (x45_1 : Int), v45 = .int .i64 x45_1 ∧ Aside0 (interpolate_Arc.l0 kq t146 (wrap64 (t147)) t148 (wrap64 (t148 * t144)) x13_1 t144 x45_1 a0_0 a0_1 a0_2 a1_0 a1_1 a1_2 a1_3 a1_4 a1_5 a1_6 = some (r1, r2)) ∧ Aside0 (kq ≤ k) ∧ Aside0 (Kd.R k23 23 w' w.heap.size (fun k_ => k_ ≠ gb142) v13 x13_1) ∧ Aside0 (w'.heap[gb142]? = some (.cells #[.int .i64 a0_0, .int .i64 a0_1, .int .i64 a0_2] 23 (0, 0))) ∧ Aside0 (w'.heap[gb143]? = some (.cells #[.int .i64 a1_0, .int .i64 a1_1, .int .i64 a1_2, .int .i64 a1_3, .int .i64 a1_4, .int .i64 a1_5, .int .i64 a1_6] 27 (0, 0))) ∧ Aside0 (Below w.heap.size w w'))
   case atStart => exact ⟨(([] : List (S23))), (0), (by first | rfl | (simp; done) | (simp [*]; done)), H', ⟨Nat.le_refl _⟩, ⟨by first | exact Kd.R_nil _ _ _ _ _ | exact Kd.N_nil _ _ _ _ _ | exact Kd.V_nil _ _ _ _ _ | exact Kd.Q_nil _ _ _ _ _ | exact Kd.S_nil _ _ _ _ _⟩, ⟨by (with_reducible repeat (first | refine blk_drewN ?_ _ | refine blk_drew ?_ | refine blk_alloc ?_ _)); exact BK142.out⟩, ⟨by (with_reducible repeat (first | refine blk_drewN ?_ _ | refine blk_drew ?_ | refine blk_alloc ?_ _)); exact BK143.out⟩, ⟨by repeat (first | (with_reducible first | exact HB.out | apply below_alloc | apply pw_below_drewN | apply below_drew1 | refine below_set ?_ GE142.out | refine below_set ?_ GE143.out) | exact HB.out)⟩⟩
   case round =>
    clear H'
    try clear c1
    try clear p2
    try clear c3
    try clear c4
    try clear c4b0
    try clear c4b1
    try clear p6
    try clear c7
    try clear c7b0
    try clear c10
    try clear c12
    try clear c16
    try clear c18
    try clear c19
    try clear hcz20_0
    try clear hcz20_1
    try clear hcz20_2
    try clear hcz21_0
    try clear hcz21_1
    try clear hcz21_2
    try clear hcz21_3
    try clear hcz21_4
    try clear hcz21_5
    try clear hcz21_6
    try clear hcz23_0
    try clear hcz23_1
    try clear hcz23_2
    try clear hcz24_0
    try clear hcz24_1
    try clear hcz24_2
    try clear hcz24_3
    try clear hcz24_4
    try clear hcz24_5
    try clear hcz24_6
    obtain ⟨x13_1, x45_1, rfl, HA, HK1, HO_13, BK142, BK143, HB⟩ := hrel
    cases gk with
    | zero => exact absurd HA.out (by simp [interpolate_Arc.l0])
    | succ k1 =>
     have H := HA.out
     clear HA
     simp only [interpolate_Arc.l0] at H
     by_cases c26 : x45_1 < t144
     ·rw [if_pos c26] at H
      have c26b0 : decide (x45_1 < t144) = true := decide_eq_true c26
      clear c26
      have H' := Aside0.mk H
      clear H
      go_wp2
      go_loopg [13, 15] k1 (fun kq v13 v15 w' => ∃ (x13_2 : List (S23)) (x15_2 : Int), v15 = .int .i64 x15_2 ∧ Aside0 (interpolate_Arc.l1 kq t146 (wrap64 (t147)) t148 (wrap64 (t148 * t144)) x13_2 x45_1 x15_2 t144 x45_1 a0_0 a0_1 a0_2 a1_0 a1_1 a1_2 a1_3 a1_4 a1_5 a1_6 = some (r1, r2)) ∧ Aside0 (kq ≤ k1) ∧ Aside0 (Kd.R k23 23 w' w.heap.size (fun k_ => k_ ≠ gb142) v13 x13_2) ∧ Aside0 (w'.heap[gb142]? = some (.cells #[.int .i64 a0_0, .int .i64 a0_1, .int .i64 a0_2] 23 (0, 0))) ∧ Aside0 (w'.heap[gb143]? = some (.cells #[.int .i64 a1_0, .int .i64 a1_1, .int .i64 a1_2, .int .i64 a1_3, .int .i64 a1_4, .int .i64 a1_5, .int .i64 a1_6] 27 (0, 0))) ∧ Aside0 (Below w.heap.size w w'))
      case atStart => exact ⟨(x13_1), (1), (by first | rfl | (simp; done) | (simp [*]; done)), H', ⟨Nat.le_refl _⟩, ⟨by (with_reducible repeat (first | apply Kd.R_alloc | apply Kd.R_drewN | apply Kd.R_drew)); exact HO_13.out⟩, ⟨by (with_reducible repeat (first | refine blk_drewN ?_ _ | refine blk_drew ?_ | refine blk_alloc ?_ _)); exact BK142.out⟩, ⟨by (with_reducible repeat (first | refine blk_drewN ?_ _ | refine blk_drew ?_ | refine blk_alloc ?_ _)); exact BK143.out⟩, ⟨by repeat (first | (with_reducible first | exact HB.out | apply below_alloc | apply pw_below_drewN | apply below_drew1 | refine below_set ?_ GE142.out | refine below_set ?_ GE143.out) | exact HB.out)⟩⟩
      case round =>
       clear H'
       try clear c1
       try clear c2
       try clear p2
       try clear c3
       try clear c4
       try clear c4b0
       try clear c4b1
       try clear p6
       try clear c7
       try clear c7b0
       try clear c10
       try clear c12
       try clear c16
       try clear c18
       try clear c19
       try clear c26
       try clear c26b0
       try clear hcz20_0
       try clear hcz20_1
       try clear hcz20_2
       try clear hcz21_0
       try clear hcz21_1
       try clear hcz21_2
       try clear hcz21_3
       try clear hcz21_4
       try clear hcz21_5
       try clear hcz21_6
       try clear hcz23_0
       try clear hcz23_1
       try clear hcz23_2
       try clear hcz24_0
       try clear hcz24_1
       try clear hcz24_2
       try clear hcz24_3
       try clear hcz24_4
       try clear hcz24_5
       try clear hcz24_6
       try clear p2
       try clear p6
       obtain ⟨x13_2, x15_2, rfl, HA, HK2, HO_13, BK142, BK143, HB⟩ := hrel
       cases gk with
       | zero => exact absurd HA.out (by simp [interpolate_Arc.l1])
       | succ k2 =>
        have H := HA.out
        clear HA
        simp only [interpolate_Arc.l1] at H
        by_cases c27 : x15_2 ≤ t148
        ·rw [if_pos c27] at H
         have c27b0 : decide (x15_2 ≤ t148) = true := decide_eq_true c27
         clear c27
         by_cases c28 : (wrap64 ((wrap64 (t148 * t148)) + (wrap64 (x15_2 * x15_2)))) = 0
         ·rw [if_pos c28] at H
          exact absurd H (by simp)
         ·rw [if_neg c28] at H
          have c28b0 : ((wrap64 ((wrap64 (t148 * t148)) + (wrap64 (x15_2 * x15_2)))) == 0) = false := beq_eq_false_iff_ne.mpr c28
          have c28b1 : ((wrap64 ((wrap64 (t148 * t148)) + (wrap64 (x15_2 * x15_2)))) != 0) = true := bne_iff_ne.mpr c28
          by_cases c29 : a1_0 = 3
          ·rw [if_pos c29] at H
           have c29b0 : (a1_0 == 3) = true := beq_iff_eq.mpr c29
           have c29b1 : (a1_0 != 3) = false := bne_eq_false_iff_eq.mpr c29
           clear c29
           replace H := Option.bind_eq_some_iff.mp H
           obtain ⟨⟨t149, t150⟩, A300, H⟩ := H
           replace H : ((interpolate_floor.f (wrap64 ((wrap64 (a1_3 - a0_2)) * (wrap64 ((x13_2.length : Int) + 1)))) (wrap64 (t148 * t144))).bind fun t151 => (if x13_2.length < 5864062014805 then (interpolate_Arc.l1 k2 t146 (wrap64 (t147)) t148 (wrap64 (t148 * t144)) (x13_2 ++ [(⟨wrap64 (a1_4 + t149), wrap64 (a1_5 + t150), wrap64 (a0_2 + t151)⟩ : S23)]) x45_1 (wrap64 (x15_2 + 1)) t144 x45_1 a0_0 a0_1 a0_2 a1_0 a1_1 a1_2 a1_3 a1_4 a1_5 a1_6) else (none))) = some (r1, r2) := H
           have A30 := Aside0.mk A300
           clear A300
           replace H := Option.bind_eq_some_iff.mp H
           obtain ⟨t151, A310, H⟩ := H
           replace H : (if x13_2.length < 5864062014805 then (interpolate_Arc.l1 k2 t146 (wrap64 (t147)) t148 (wrap64 (t148 * t144)) (x13_2 ++ [(⟨wrap64 (a1_4 + t149), wrap64 (a1_5 + t150), wrap64 (a0_2 + t151)⟩ : S23)]) x45_1 (wrap64 (x15_2 + 1)) t144 x45_1 a0_0 a0_1 a0_2 a1_0 a1_1 a1_2 a1_3 a1_4 a1_5 a1_6) else (none)) = some (r1, r2) := H
           have A31 := Aside0.mk A310
           clear A310
           by_cases c32 : x13_2.length < 5864062014805
           ·rw [if_pos c32] at H
            have LMc32 := Aside0.mk c32
            clear c32
            obtain ⟨y152, hy152⟩ : ∃ y_ : List (S23), y_ = (x13_2 ++ [(⟨wrap64 (a1_4 + t149), wrap64 (a1_5 + t150), wrap64 (a0_2 + t151)⟩ : S23)]) := ⟨_, rfl⟩
            replace H : (interpolate_Arc.l1 k2 t146 (wrap64 (t147)) t148 (wrap64 (t148 * t144)) y152 x45_1 (wrap64 (x15_2 + 1)) t144 x45_1 a0_0 a0_1 a0_2 a1_0 a1_1 a1_2 a1_3 a1_4 a1_5 a1_6) = some (r1, r2) := by first | (rw [hy152]; with_reducible exact H) | (have H2_ := (Option.bind_some _ _).symm.trans H; rw [hy152]; with_reducible exact H2_) | (have H2_ := (Option.bind_some _ _).symm.trans H; with_reducible exact H2_) | with_reducible exact H | (rw [hy152]; exact H) | exact H
            have Ny152 := Aside0.mk hy152
            clear hy152
            have H' := Aside0.mk H
            clear H
            try go_wp2
            have n0_ := Aside0.mk (Kd.R_drew HO_13.out)
            have n1_ := Aside0.mk (blk_drew BK142.out)
            have n2_ := Aside0.mk (blk_drew BK143.out)
            have n3_ := Aside0.mk (below_drew1 HB.out)
            clear HO_13
            clear BK142
            clear BK143
            clear HB
            have HO_13 := n0_
            have BK142 := n1_
            have BK143 := n2_
            have HB := n3_
            clear n0_ n1_ n2_ n3_
            refine start_ (n := 33) (S := fun w' => True) (ds := []) #[false, false, false, false, false, false, false, false, false, false, false, false, false, false, false, false, false, false, false, false, false, false, false, false, false, false, false, false, false, false, false, false, false] (by kernel_rfl) rfl rfl trivial (fun hHeld => ?_); refine with_tabW interpolate_Arc.tab17 interpolate_Arc.bits17 (fun HT_ HW_ => ?_)
            generalize wr.drew = w33 at HO_13 BK142 BK143 HB hHeld ⊢
            refine pu 0 53 (bzz 33 1) (any_of HT_.out (by kernel_rfl)) ?_
            refine pu 1 54 (bzz 33 3) (any_of HT_.out (by kernel_rfl)) ?_
            refine pu 2 55 (bzz 33 7) (any_of HT_.out (by kernel_rfl)) ?_
            refine pu 3 56 (bzz 33 15) (any_of HT_.out (by kernel_rfl)) ?_
            refine pu 4 57 (bzz 33 31) (any_of HT_.out (by kernel_rfl)) ?_
            refine pu 5 58 (bzz 33 63) (any_of HT_.out (by kernel_rfl)) ?_
            refine pu 6 59 (bzz 33 127) (any_of HT_.out (by kernel_rfl)) ?_
            refine pu 7 60 (bzz 33 255) (any_of HT_.out (by kernel_rfl)) ?_
            refine pu 8 61 (bzz 33 511) (any_of HT_.out (by kernel_rfl)) ?_
            refine pu 9 62 (bzz 33 1023) (any_of HT_.out (by kernel_rfl)) ?_
            refine pu 10 63 (bzz 33 2047) (any_of HT_.out (by kernel_rfl)) ?_
            refine pu 11 64 (bzz 33 4095) (any_of HT_.out (by kernel_rfl)) ?_
            refine pu 12 65 (bzz 33 8191) (any_of HT_.out (by kernel_rfl)) ?_
            refine pu 13 66 (bzz 33 16383) (any_of HT_.out (by kernel_rfl)) ?_
            refine pu 14 67 (bzz 33 32767) (any_of HT_.out (by kernel_rfl)) ?_
            refine pu 15 68 (bzz 33 65535) (any_of HT_.out (by kernel_rfl)) ?_
            refine pu 16 69 (bzz 33 131071) (any_of HT_.out (by kernel_rfl)) ?_
            refine pu 17 70 (bzz 33 262143) (any_of HT_.out (by kernel_rfl)) ?_
            refine pu 18 71 (bzz 33 524287) (any_of HT_.out (by kernel_rfl)) ?_
            refine pu 19 72 (bzz 33 1048575) (any_of HT_.out (by kernel_rfl)) ?_
            refine pu 20 73 (bzz 33 2097151) (any_of HT_.out (by kernel_rfl)) ?_
            refine pu 21 74 (bzz 33 4194303) (any_of HT_.out (by kernel_rfl)) ?_
            refine pu 22 75 (bzz 33 8388607) (any_of HT_.out (by kernel_rfl)) ?_
            refine pu 23 76 (bzz 33 16777215) (any_of HT_.out (by kernel_rfl)) ?_
            refine pu 24 77 (bzz 33 33554431) (any_of HT_.out (by kernel_rfl)) ?_
            refine pu 25 78 (bzz 33 67108863) (any_of HT_.out (by kernel_rfl)) ?_
            refine pu 26 79 (bzz 33 134217727) (any_of HT_.out (by kernel_rfl)) ?_
            refine pu 27 80 (bzz 33 268435455) (any_of HT_.out (by kernel_rfl)) ?_
            refine pu 28 81 (bzz 33 536870911) (any_of HT_.out (by kernel_rfl)) ?_
            refine pu 29 82 (bzz 33 1073741823) (any_of HT_.out (by kernel_rfl)) ?_
            refine pu 30 83 (bzz 33 2147483647) (any_of HT_.out (by kernel_rfl)) ?_
            refine pu 31 16 (bzz 33 4294967295) (any_of HT_.out (by kernel_rfl)) ?_
            refine pu 32 17 (bzz 33 8589934591) (any_of HT_.out (by kernel_rfl)) ?_
            refine done_ (done_of HT_.out (by kernel_rfl)) ?_
            have hnb34 := NB143_142.out
            have hnc34 := NB142_143.out
            obtain ⟨hcz35_0, hcz35_1, hcz35_2, hcz35_3, hcz35_4, hcz35_5, hcz35_6⟩ := cells7 BK143.out
            try go_wp2_with (first | ((with_reducible refine gate_callee (f := 37) rfl ?_); refine goesL_ (some 95) rfl rfl Try.func37 (by kernel_rfl) rfl #[.int .i64 (wrap64 (Int.tdiv (wrap64 ((wrap64 (t147)) * (wrap64 ((wrap64 (t148 * t148)) - (wrap64 (x15_2 * x15_2)))))) (wrap64 ((wrap64 (t148 * t148)) + (wrap64 (x15_2 * x15_2)))))), .int .i64 (wrap64 (-(wrap64 (Int.tdiv (wrap64 ((wrap64 ((wrap64 (2 * (wrap64 (t147)))) * x15_2)) * t148)) (wrap64 ((wrap64 (t148 * t148)) + (wrap64 (x15_2 * x15_2)))))))), .int .i64 (wrap64 ((wrap64 (t146 - x45_1)) + 4))] rfl (by (try simp only [List.map_toArray, List.map_cons, List.map_nil]); first | done | rfl | (simp only [List.length_drop, List.length_take]; rfl)) ?_; (with_reducible refine (interpolate_turned.calls k2 (wrap64 (Int.tdiv (wrap64 ((wrap64 (t147)) * (wrap64 ((wrap64 (t148 * t148)) - (wrap64 (x15_2 * x15_2)))))) (wrap64 ((wrap64 (t148 * t148)) + (wrap64 (x15_2 * x15_2)))))) (wrap64 (-(wrap64 (Int.tdiv (wrap64 ((wrap64 ((wrap64 (2 * (wrap64 (t147)))) * x15_2)) * t148)) (wrap64 ((wrap64 (t148 * t148)) + (wrap64 (x15_2 * x15_2)))))))) (wrap64 ((wrap64 (t146 - x45_1)) + 4)) t149 t150 _ A30.out).mono ?_); rintro e w' ⟨rfl, ⟨nd, rfl⟩⟩; refine ⟨_, rfl, ?_⟩; obtain ⟨Ao36, co36, eo36⟩ := Kd.R_slice HO_13.out; subst eo36))
            (try (rw [drewN_self w33]; generalize hq_ : World.drewN w33 _ = w33; have n0_ : Aside0 (Kd.R k23 23 w33 w.heap.size (fun k_ => k_ ≠ gb142) (.slice Ao36 x13_2.length co36) x13_2) := ⟨by rw [← hq_]; exact (by (with_reducible repeat (first | apply Kd.R_alloc | apply Kd.R_drewN | apply Kd.R_drew)); exact HO_13.out)⟩; have n1_ : Aside0 (w33.heap[gb142]? = some (.cells #[.int .i64 a0_0, .int .i64 a0_1, .int .i64 a0_2] 23 (0, 0))) := ⟨by rw [← hq_]; exact (by (with_reducible repeat (first | refine blk_drewN ?_ _ | refine blk_drew ?_ | refine blk_alloc ?_ _)); exact BK142.out)⟩; have n2_ : Aside0 (w33.heap[gb143]? = some (.cells #[.int .i64 a1_0, .int .i64 a1_1, .int .i64 a1_2, .int .i64 a1_3, .int .i64 a1_4, .int .i64 a1_5, .int .i64 a1_6] 27 (0, 0))) := ⟨by rw [← hq_]; exact (by (with_reducible repeat (first | refine blk_drewN ?_ _ | refine blk_drew ?_ | refine blk_alloc ?_ _)); exact BK143.out)⟩; have n3_ : Aside0 (Below w.heap.size w w33) := ⟨by rw [← hq_]; exact (by repeat (first | (with_reducible first | exact HB.out | apply below_alloc | apply pw_below_drewN | apply below_drew1 | refine below_set ?_ GE142.out | refine below_set ?_ GE143.out) | exact HB.out))⟩; clear HO_13 BK142 BK143 HB hq_; have HO_13 := n0_; have BK142 := n1_; have BK143 := n2_; have HB := n3_; clear n0_ n1_ n2_ n3_))
            have n0_ := Aside0.mk (Kd.R_drew HO_13.out)
            have n1_ := Aside0.mk (blk_drew BK142.out)
            have n2_ := Aside0.mk (blk_drew BK143.out)
            have n3_ := Aside0.mk (below_drew1 HB.out)
            clear HO_13
            clear BK142
            clear BK143
            clear HB
            have HO_13 := n0_
            have BK142 := n1_
            have BK143 := n2_
            have HB := n3_
            clear n0_ n1_ n2_ n3_
            refine start_ (n := 28) (S := fun w' => w'.cell? ⟨gb143, 0, none⟩ = some (.int .i64 a1_0) ∧ w'.cell? ⟨gb143, 1, none⟩ = some (.int .i64 a1_1) ∧ w'.cell? ⟨gb143, 2, none⟩ = some (.int .i64 a1_2) ∧ w'.cell? ⟨gb143, 3, none⟩ = some (.int .i64 a1_3) ∧ w'.cell? ⟨gb143, 4, none⟩ = some (.int .i64 a1_4) ∧ w'.cell? ⟨gb143, 5, none⟩ = some (.int .i64 a1_5) ∧ w'.cell? ⟨gb143, 6, none⟩ = some (.int .i64 a1_6) ∧ w'.cell? ⟨gb142, 0, none⟩ = some (.int .i64 a0_0) ∧ w'.cell? ⟨gb142, 1, none⟩ = some (.int .i64 a0_1) ∧ w'.cell? ⟨gb142, 2, none⟩ = some (.int .i64 a0_2)) (ds := []) #[false, false, false, false, false, false, false, false, false, false, false, false, false, false, false, false, false, false, false, false, false, false, false, false, false, false, false, false] (by kernel_rfl) rfl rfl ⟨(blk_cell BK143.out 0).trans rfl, (blk_cell BK143.out 1).trans rfl, (blk_cell BK143.out 2).trans rfl, (blk_cell BK143.out 3).trans rfl, (blk_cell BK143.out 4).trans rfl, (blk_cell BK143.out 5).trans rfl, (blk_cell BK143.out 6).trans rfl, (blk_cell BK142.out 0).trans rfl, (blk_cell BK142.out 1).trans rfl, (blk_cell BK142.out 2).trans rfl⟩ (fun hHeld => ?_); refine with_tabW interpolate_Arc.tab22 interpolate_Arc.bits22 (fun HT_ HW_ => ?_)
            generalize w33.drew = w37 at HO_13 BK142 BK143 HB hHeld ⊢
            refine pu 0 110 (bzz 28 1) (any_of HT_.out (by kernel_rfl)) ?_
            refine pu 1 111 (bzz 28 3) (any_of HT_.out (by kernel_rfl)) ?_
            refine pu 2 112 (bzz 28 7) (any_of HT_.out (by kernel_rfl)) ?_
            refine pu 4 114 (bzz 28 23) (any_of HT_.out (by kernel_rfl)) ?_
            refine pu 6 116 (bzz 28 87) (any_of HT_.out (by kernel_rfl)) ?_
            refine pu 7 117 (bzz 28 215) (any_of HT_.out (by kernel_rfl)) ?_
            refine pu 9 119 (bzz 28 727) (any_of HT_.out (by kernel_rfl)) ?_
            refine pu 11 121 (bzz 28 2775) (any_of HT_.out (by kernel_rfl)) ?_
            refine pu 13 123 (bzz 28 10967) (any_of HT_.out (by kernel_rfl)) ?_
            refine pu 14 124 (bzz 28 27351) (any_of HT_.out (by kernel_rfl)) ?_
            refine pu 16 126 (bzz 28 92887) (any_of HT_.out (by kernel_rfl)) ?_
            refine pu 19 129 (bzz 28 617175) (any_of HT_.out (by kernel_rfl)) ?_
            refine pu 21 131 (bzz 28 2714327) (any_of HT_.out (by kernel_rfl)) ?_
            refine ta 3 113 (bzz 28 2714335) (take_ofW HT_.out HW_.out (by kernel_rfl)) hHeld ?_
            refine pu 5 115 (bzz 28 2714367) (any_of HT_.out (by kernel_rfl)) ?_
            refine ta 8 118 (bzz 28 2714623) (take_ofW HT_.out HW_.out (by kernel_rfl)) hHeld ?_
            refine pu 10 120 (bzz 28 2715647) (any_of HT_.out (by kernel_rfl)) ?_
            refine ta 12 122 (bzz 28 2719743) (take_ofW HT_.out HW_.out (by kernel_rfl)) hHeld ?_
            refine ta 15 125 (bzz 28 2752511) (take_ofW HT_.out HW_.out (by kernel_rfl)) hHeld ?_
            refine ta 17 127 (bzz 28 2883583) (take_ofW HT_.out HW_.out (by kernel_rfl)) hHeld ?_
            refine pu 18 128 (bzz 28 3145727) (any_of HT_.out (by kernel_rfl)) ?_
            refine pu 20 130 (bzz 28 4194303) (any_of HT_.out (by kernel_rfl)) ?_
            refine one_ (i := 22) (N := some 132) (bzz 28 8388607) rfl rfl (one_of HT_.out (by kernel_rfl)) (by decide) (fun K hK => ?_)
            refine goes_ Try.func38 (by kernel_rfl) rfl #[.int .i64 (wrap64 ((wrap64 (a1_3 - a0_2)) * (wrap64 ((x13_2.length : Int) + 1)))), .int .i64 (wrap64 (t148 * t144))] (by rfl) rfl rfl (by (try simp only [List.map_toArray, List.map_cons, List.map_nil]); first | done | rfl | (simp only [List.length_drop, List.length_take]; rfl)) ?_
            with_reducible refine (interpolate_floor.calls (wrap64 ((wrap64 (a1_3 - a0_2)) * (wrap64 ((x13_2.length : Int) + 1)))) (wrap64 (t148 * t144)) t151 _ A31.out).mono ?_
            rintro e w' ⟨rfl, ⟨nd, rfl⟩⟩
            refine ⟨_, rfl, ?_⟩
            refine hK.out _ _ ⟨(blk_cell BK143.out 0).trans rfl, (blk_cell BK143.out 1).trans rfl, (blk_cell BK143.out 2).trans rfl, (blk_cell BK143.out 3).trans rfl, (blk_cell BK143.out 4).trans rfl, (blk_cell BK143.out 5).trans rfl, (blk_cell BK143.out 6).trans rfl, (blk_cell BK142.out 0).trans rfl, (blk_cell BK142.out 1).trans rfl, (blk_cell BK142.out 2).trans rfl⟩ (fun hHeld => ?_)
            clear hK K
            refine norm_ (a' := ?_) ?_ ?_
            rotate_left
            ·show Act.put _ (some 132) _ = _
             simp only [Act.put, List.setIfInBounds_toArray, List.set_cons_zero, List.set_cons_succ, i64_w, i32_w]
             rfl
            refine pu 23 133 (bzz 28 16777215) (any_of HT_.out (by kernel_rfl)) ?_
            refine pu 24 134 (bzz 28 33554431) (any_of HT_.out (by kernel_rfl)) ?_
            refine one_ (i := 25) (N := some 135) (bzz 28 67108863) rfl rfl (one_of HT_.out (by kernel_rfl)) (by decide) (fun K hK => ?_)
            refine value_ (w1 := ?_) (v := ?_) (by rfl) rfl ?_ ?_
            rotate_left 2
            ·go_simp
             constructor
             ·rfl
             ·rfl
            refine hK.out _ _ ⟨(blk_cell (blk_alloc BK143.out _) 0).trans rfl, (blk_cell (blk_alloc BK143.out _) 1).trans rfl, (blk_cell (blk_alloc BK143.out _) 2).trans rfl, (blk_cell (blk_alloc BK143.out _) 3).trans rfl, (blk_cell (blk_alloc BK143.out _) 4).trans rfl, (blk_cell (blk_alloc BK143.out _) 5).trans rfl, (blk_cell (blk_alloc BK143.out _) 6).trans rfl, (blk_cell (blk_alloc BK142.out _) 0).trans rfl, (blk_cell (blk_alloc BK142.out _) 1).trans rfl, (blk_cell (blk_alloc BK142.out _) 2).trans rfl⟩ (fun hHeld => ?_)
            clear hK K
            refine norm_ (a' := ?_) ?_ ?_
            rotate_left
            ·show Act.put _ (some 135) _ = _
             simp only [Act.put, List.setIfInBounds_toArray, List.set_cons_zero, List.set_cons_succ, i64_w, i32_w]
             rfl
            refine one_ (i := 26) (N := some 136) (bzz 28 134217727) rfl rfl (one_of HT_.out (by kernel_rfl)) (by decide) (fun K hK => ?_)
            refine Kd.R_append_step k23 (w0 := w) w.heap.size (by rfl) (.tmp 110) (.tmp 135) 38 23 (.agg #[(.int .i64 0), (.int .i64 0), (.int .i64 0)]) 24 rfl Try.underlying38 info23 rfl (by decide) (by omega) (.slice Ao36 x13_2.length co36) x13_2 (⟨wrap64 (a1_4 + t149), wrap64 (a1_5 + t150), wrap64 (a0_2 + t151)⟩ : S23) [.int .i64 (wrap64 (a1_4 + t149)), .int .i64 (wrap64 (a1_5 + t150)), .int .i64 (wrap64 (a0_2 + t151))] (fun k_ => k_ ≠ gb142) (fun _ => False) rfl rfl ?aP (fun _ hk => hk.elim) ?aF ?aO ?aB ?aS ?aL ?_
            (case aP => exact k23_mkM _ _ _ (⟨wrap64 (a1_4 + t149), wrap64 (a1_5 + t150), wrap64 (a0_2 + t151)⟩ : S23))
            (case aB => exact (by repeat (first | (with_reducible first | exact HB.out | apply below_alloc | apply pw_below_drewN | apply below_drew1 | refine below_set ?_ GE142.out | refine below_set ?_ GE143.out) | exact HB.out)))
            (case aF => exact (fun k_ hk => Kd.freshB (g := gb142) (o := .cells #[.int .i64 a0_0, .int .i64 a0_1, .int .i64 a0_2] 23 (0, 0)) (by (with_reducible repeat (first | refine blk_drewN ?_ _ | refine blk_drew ?_ | refine blk_alloc ?_ _)); exact BK142.out) k_ hk))
            (case aO => exact (by (with_reducible repeat (first | apply Kd.R_alloc | apply Kd.R_drewN | apply Kd.R_drew)); exact HO_13.out))
            (case aS => exact (below_size (by first | exact HB.out | exact pw_below_drewN HB.out _)))
            (case aL => have := LMc32.out; omega)
            intro v153 w38 ho hb hg hat
            rw [← Ny152.out] at ho
            have n0_ := Aside0.mk (blk_grown (g := gb142) (o := .cells #[.int .i64 a0_0, .int .i64 a0_1, .int .i64 a0_2] 23 (0, 0)) (by (with_reducible repeat (first | refine blk_drewN ?_ _ | refine blk_drew ?_ | refine blk_alloc ?_ _)); exact BK142.out) hg (Kd.R_away HO_13.out (fun _ hk => hk)))
            have n1_ := Aside0.mk (blk_grown (g := gb143) (o := .cells #[.int .i64 a1_0, .int .i64 a1_1, .int .i64 a1_2, .int .i64 a1_3, .int .i64 a1_4, .int .i64 a1_5, .int .i64 a1_6] 27 (0, 0)) (by (with_reducible repeat (first | refine blk_drewN ?_ _ | refine blk_drew ?_ | refine blk_alloc ?_ _)); exact BK143.out) hg (Kd.R_ne HO_13.out BK143.out (by decide)))
            have n2_ := Aside0.mk (hb)
            have n3_ := Aside0.mk (ho)
            clear BK142
            clear BK143
            clear HB
            clear HO_13
            have BK142 := n0_
            have BK143 := n1_
            have HB := n2_
            have HO154 := n3_
            clear n0_ n1_ n2_ n3_
            clear ho hb hg hat
            refine hK.out _ _ ⟨(blk_cell BK143.out 0).trans rfl, (blk_cell BK143.out 1).trans rfl, (blk_cell BK143.out 2).trans rfl, (blk_cell BK143.out 3).trans rfl, (blk_cell BK143.out 4).trans rfl, (blk_cell BK143.out 5).trans rfl, (blk_cell BK143.out 6).trans rfl, (blk_cell BK142.out 0).trans rfl, (blk_cell BK142.out 1).trans rfl, (blk_cell BK142.out 2).trans rfl⟩ (fun hHeld => ?_)
            clear hK K
            refine norm_ (a' := ?_) ?_ ?_
            rotate_left
            ·show Act.put _ (some 136) _ = _
             simp only [Act.put, List.setIfInBounds_toArray, List.set_cons_zero, List.set_cons_succ, i64_w, i32_w]
             rfl
            refine pu 27 13 (bzz 28 268435455) (any_of HT_.out (by kernel_rfl)) ?_
            refine done_ (done_of HT_.out (by kernel_rfl)) ?_
            try go_wp2
            go_roundg k2
            case measure => have := HK1.out; have := HK2.out; omega
            case rel => exact ⟨(y152), (wrap64 (x15_2 + 1)), (by first | rfl | (simp; done) | (simp [*]; done)), H', ⟨by have := HK1.out; have := HK2.out; omega⟩, ⟨by (with_reducible repeat (first | apply Kd.R_alloc | apply Kd.R_drewN | apply Kd.R_drew)); exact HO154.out⟩, ⟨by (with_reducible repeat (first | refine blk_drewN ?_ _ | refine blk_drew ?_ | refine blk_alloc ?_ _)); exact BK142.out⟩, ⟨by (with_reducible repeat (first | refine blk_drewN ?_ _ | refine blk_drew ?_ | refine blk_alloc ?_ _)); exact BK143.out⟩, ⟨by repeat (first | (with_reducible first | exact HB.out | apply below_alloc | apply pw_below_drewN | apply below_drew1 | refine below_set ?_ GE142.out | refine below_set ?_ GE143.out) | exact HB.out)⟩⟩
           ·rw [if_neg c32] at H
            exact absurd H (by simp)
          ·rw [if_neg c29] at H
           have c29b0 : (a1_0 == 3) = false := beq_eq_false_iff_ne.mpr c29
           have c29b1 : (a1_0 != 3) = true := bne_iff_ne.mpr c29
           replace H := Option.bind_eq_some_iff.mp H
           obtain ⟨⟨t155, t156⟩, A390, H⟩ := H
           replace H : ((interpolate_floor.f (wrap64 ((wrap64 (a1_3 - a0_2)) * (wrap64 ((x13_2.length : Int) + 1)))) (wrap64 (t148 * t144))).bind fun t157 => (if x13_2.length < 5864062014805 then (interpolate_Arc.l1 k2 t146 (wrap64 (t147)) t148 (wrap64 (t148 * t144)) (x13_2 ++ [(⟨wrap64 (a1_4 + t155), wrap64 (a1_5 + t156), wrap64 (a0_2 + t157)⟩ : S23)]) x45_1 (wrap64 (x15_2 + 1)) t144 x45_1 a0_0 a0_1 a0_2 a1_0 a1_1 a1_2 a1_3 a1_4 a1_5 a1_6) else (none))) = some (r1, r2) := H
           have A39 := Aside0.mk A390
           clear A390
           replace H := Option.bind_eq_some_iff.mp H
           obtain ⟨t157, A400, H⟩ := H
           replace H : (if x13_2.length < 5864062014805 then (interpolate_Arc.l1 k2 t146 (wrap64 (t147)) t148 (wrap64 (t148 * t144)) (x13_2 ++ [(⟨wrap64 (a1_4 + t155), wrap64 (a1_5 + t156), wrap64 (a0_2 + t157)⟩ : S23)]) x45_1 (wrap64 (x15_2 + 1)) t144 x45_1 a0_0 a0_1 a0_2 a1_0 a1_1 a1_2 a1_3 a1_4 a1_5 a1_6) else (none)) = some (r1, r2) := H
           have A40 := Aside0.mk A400
           clear A400
           by_cases c41 : x13_2.length < 5864062014805
           ·rw [if_pos c41] at H
            have LMc41 := Aside0.mk c41
            clear c41
            obtain ⟨y158, hy158⟩ : ∃ y_ : List (S23), y_ = (x13_2 ++ [(⟨wrap64 (a1_4 + t155), wrap64 (a1_5 + t156), wrap64 (a0_2 + t157)⟩ : S23)]) := ⟨_, rfl⟩
            replace H : (interpolate_Arc.l1 k2 t146 (wrap64 (t147)) t148 (wrap64 (t148 * t144)) y158 x45_1 (wrap64 (x15_2 + 1)) t144 x45_1 a0_0 a0_1 a0_2 a1_0 a1_1 a1_2 a1_3 a1_4 a1_5 a1_6) = some (r1, r2) := by first | (rw [hy158]; with_reducible exact H) | (have H2_ := (Option.bind_some _ _).symm.trans H; rw [hy158]; with_reducible exact H2_) | (have H2_ := (Option.bind_some _ _).symm.trans H; with_reducible exact H2_) | with_reducible exact H | (rw [hy158]; exact H) | exact H
            have Ny158 := Aside0.mk hy158
            clear hy158
            have H' := Aside0.mk H
            clear H
            try go_wp2
            have n0_ := Aside0.mk (Kd.R_drew HO_13.out)
            have n1_ := Aside0.mk (blk_drew BK142.out)
            have n2_ := Aside0.mk (blk_drew BK143.out)
            have n3_ := Aside0.mk (below_drew1 HB.out)
            clear HO_13
            clear BK142
            clear BK143
            clear HB
            have HO_13 := n0_
            have BK142 := n1_
            have BK143 := n2_
            have HB := n3_
            clear n0_ n1_ n2_ n3_
            refine start_ (n := 33) (S := fun w' => True) (ds := []) #[false, false, false, false, false, false, false, false, false, false, false, false, false, false, false, false, false, false, false, false, false, false, false, false, false, false, false, false, false, false, false, false, false] (by kernel_rfl) rfl rfl trivial (fun hHeld => ?_); refine with_tabW interpolate_Arc.tab17 interpolate_Arc.bits17 (fun HT_ HW_ => ?_)
            generalize wr.drew = w42 at HO_13 BK142 BK143 HB hHeld ⊢
            refine pu 0 53 (bzz 33 1) (any_of HT_.out (by kernel_rfl)) ?_
            refine pu 1 54 (bzz 33 3) (any_of HT_.out (by kernel_rfl)) ?_
            refine pu 2 55 (bzz 33 7) (any_of HT_.out (by kernel_rfl)) ?_
            refine pu 3 56 (bzz 33 15) (any_of HT_.out (by kernel_rfl)) ?_
            refine pu 4 57 (bzz 33 31) (any_of HT_.out (by kernel_rfl)) ?_
            refine pu 5 58 (bzz 33 63) (any_of HT_.out (by kernel_rfl)) ?_
            refine pu 6 59 (bzz 33 127) (any_of HT_.out (by kernel_rfl)) ?_
            refine pu 7 60 (bzz 33 255) (any_of HT_.out (by kernel_rfl)) ?_
            refine pu 8 61 (bzz 33 511) (any_of HT_.out (by kernel_rfl)) ?_
            refine pu 9 62 (bzz 33 1023) (any_of HT_.out (by kernel_rfl)) ?_
            refine pu 10 63 (bzz 33 2047) (any_of HT_.out (by kernel_rfl)) ?_
            refine pu 11 64 (bzz 33 4095) (any_of HT_.out (by kernel_rfl)) ?_
            refine pu 12 65 (bzz 33 8191) (any_of HT_.out (by kernel_rfl)) ?_
            refine pu 13 66 (bzz 33 16383) (any_of HT_.out (by kernel_rfl)) ?_
            refine pu 14 67 (bzz 33 32767) (any_of HT_.out (by kernel_rfl)) ?_
            refine pu 15 68 (bzz 33 65535) (any_of HT_.out (by kernel_rfl)) ?_
            refine pu 16 69 (bzz 33 131071) (any_of HT_.out (by kernel_rfl)) ?_
            refine pu 17 70 (bzz 33 262143) (any_of HT_.out (by kernel_rfl)) ?_
            refine pu 18 71 (bzz 33 524287) (any_of HT_.out (by kernel_rfl)) ?_
            refine pu 19 72 (bzz 33 1048575) (any_of HT_.out (by kernel_rfl)) ?_
            refine pu 20 73 (bzz 33 2097151) (any_of HT_.out (by kernel_rfl)) ?_
            refine pu 21 74 (bzz 33 4194303) (any_of HT_.out (by kernel_rfl)) ?_
            refine pu 22 75 (bzz 33 8388607) (any_of HT_.out (by kernel_rfl)) ?_
            refine pu 23 76 (bzz 33 16777215) (any_of HT_.out (by kernel_rfl)) ?_
            refine pu 24 77 (bzz 33 33554431) (any_of HT_.out (by kernel_rfl)) ?_
            refine pu 25 78 (bzz 33 67108863) (any_of HT_.out (by kernel_rfl)) ?_
            refine pu 26 79 (bzz 33 134217727) (any_of HT_.out (by kernel_rfl)) ?_
            refine pu 27 80 (bzz 33 268435455) (any_of HT_.out (by kernel_rfl)) ?_
            refine pu 28 81 (bzz 33 536870911) (any_of HT_.out (by kernel_rfl)) ?_
            refine pu 29 82 (bzz 33 1073741823) (any_of HT_.out (by kernel_rfl)) ?_
            refine pu 30 83 (bzz 33 2147483647) (any_of HT_.out (by kernel_rfl)) ?_
            refine pu 31 16 (bzz 33 4294967295) (any_of HT_.out (by kernel_rfl)) ?_
            refine pu 32 17 (bzz 33 8589934591) (any_of HT_.out (by kernel_rfl)) ?_
            refine done_ (done_of HT_.out (by kernel_rfl)) ?_
            have hnb43 := NB143_142.out
            have hnc43 := NB142_143.out
            obtain ⟨hcz44_0, hcz44_1, hcz44_2, hcz44_3, hcz44_4, hcz44_5, hcz44_6⟩ := cells7 BK143.out
            try go_wp2_with (first | ((with_reducible refine gate_callee (f := 37) rfl ?_); refine goesL_ (some 104) rfl rfl Try.func37 (by kernel_rfl) rfl #[.int .i64 (wrap64 (Int.tdiv (wrap64 ((wrap64 (t147)) * (wrap64 ((wrap64 (t148 * t148)) - (wrap64 (x15_2 * x15_2)))))) (wrap64 ((wrap64 (t148 * t148)) + (wrap64 (x15_2 * x15_2)))))), .int .i64 (wrap64 (Int.tdiv (wrap64 ((wrap64 ((wrap64 (2 * (wrap64 (t147)))) * x15_2)) * t148)) (wrap64 ((wrap64 (t148 * t148)) + (wrap64 (x15_2 * x15_2)))))), .int .i64 (wrap64 (t146 + x45_1))] rfl (by (try simp only [List.map_toArray, List.map_cons, List.map_nil]); first | done | rfl | (simp only [List.length_drop, List.length_take]; rfl)) ?_; (with_reducible refine (interpolate_turned.calls k2 (wrap64 (Int.tdiv (wrap64 ((wrap64 (t147)) * (wrap64 ((wrap64 (t148 * t148)) - (wrap64 (x15_2 * x15_2)))))) (wrap64 ((wrap64 (t148 * t148)) + (wrap64 (x15_2 * x15_2)))))) (wrap64 (Int.tdiv (wrap64 ((wrap64 ((wrap64 (2 * (wrap64 (t147)))) * x15_2)) * t148)) (wrap64 ((wrap64 (t148 * t148)) + (wrap64 (x15_2 * x15_2)))))) (wrap64 (t146 + x45_1)) t155 t156 _ A39.out).mono ?_); rintro e w' ⟨rfl, ⟨nd, rfl⟩⟩; refine ⟨_, rfl, ?_⟩; obtain ⟨Ao45, co45, eo45⟩ := Kd.R_slice HO_13.out; subst eo45))
            (try (rw [drewN_self w42]; generalize hq_ : World.drewN w42 _ = w42; have n0_ : Aside0 (Kd.R k23 23 w42 w.heap.size (fun k_ => k_ ≠ gb142) (.slice Ao45 x13_2.length co45) x13_2) := ⟨by rw [← hq_]; exact (by (with_reducible repeat (first | apply Kd.R_alloc | apply Kd.R_drewN | apply Kd.R_drew)); exact HO_13.out)⟩; have n1_ : Aside0 (w42.heap[gb142]? = some (.cells #[.int .i64 a0_0, .int .i64 a0_1, .int .i64 a0_2] 23 (0, 0))) := ⟨by rw [← hq_]; exact (by (with_reducible repeat (first | refine blk_drewN ?_ _ | refine blk_drew ?_ | refine blk_alloc ?_ _)); exact BK142.out)⟩; have n2_ : Aside0 (w42.heap[gb143]? = some (.cells #[.int .i64 a1_0, .int .i64 a1_1, .int .i64 a1_2, .int .i64 a1_3, .int .i64 a1_4, .int .i64 a1_5, .int .i64 a1_6] 27 (0, 0))) := ⟨by rw [← hq_]; exact (by (with_reducible repeat (first | refine blk_drewN ?_ _ | refine blk_drew ?_ | refine blk_alloc ?_ _)); exact BK143.out)⟩; have n3_ : Aside0 (Below w.heap.size w w42) := ⟨by rw [← hq_]; exact (by repeat (first | (with_reducible first | exact HB.out | apply below_alloc | apply pw_below_drewN | apply below_drew1 | refine below_set ?_ GE142.out | refine below_set ?_ GE143.out) | exact HB.out))⟩; clear HO_13 BK142 BK143 HB hq_; have HO_13 := n0_; have BK142 := n1_; have BK143 := n2_; have HB := n3_; clear n0_ n1_ n2_ n3_))
            have n0_ := Aside0.mk (Kd.R_drew HO_13.out)
            have n1_ := Aside0.mk (blk_drew BK142.out)
            have n2_ := Aside0.mk (blk_drew BK143.out)
            have n3_ := Aside0.mk (below_drew1 HB.out)
            clear HO_13
            clear BK142
            clear BK143
            clear HB
            have HO_13 := n0_
            have BK142 := n1_
            have BK143 := n2_
            have HB := n3_
            clear n0_ n1_ n2_ n3_
            refine start_ (n := 28) (S := fun w' => w'.cell? ⟨gb143, 0, none⟩ = some (.int .i64 a1_0) ∧ w'.cell? ⟨gb143, 1, none⟩ = some (.int .i64 a1_1) ∧ w'.cell? ⟨gb143, 2, none⟩ = some (.int .i64 a1_2) ∧ w'.cell? ⟨gb143, 3, none⟩ = some (.int .i64 a1_3) ∧ w'.cell? ⟨gb143, 4, none⟩ = some (.int .i64 a1_4) ∧ w'.cell? ⟨gb143, 5, none⟩ = some (.int .i64 a1_5) ∧ w'.cell? ⟨gb143, 6, none⟩ = some (.int .i64 a1_6) ∧ w'.cell? ⟨gb142, 0, none⟩ = some (.int .i64 a0_0) ∧ w'.cell? ⟨gb142, 1, none⟩ = some (.int .i64 a0_1) ∧ w'.cell? ⟨gb142, 2, none⟩ = some (.int .i64 a0_2)) (ds := []) #[false, false, false, false, false, false, false, false, false, false, false, false, false, false, false, false, false, false, false, false, false, false, false, false, false, false, false, false] (by kernel_rfl) rfl rfl ⟨(blk_cell BK143.out 0).trans rfl, (blk_cell BK143.out 1).trans rfl, (blk_cell BK143.out 2).trans rfl, (blk_cell BK143.out 3).trans rfl, (blk_cell BK143.out 4).trans rfl, (blk_cell BK143.out 5).trans rfl, (blk_cell BK143.out 6).trans rfl, (blk_cell BK142.out 0).trans rfl, (blk_cell BK142.out 1).trans rfl, (blk_cell BK142.out 2).trans rfl⟩ (fun hHeld => ?_); refine with_tabW interpolate_Arc.tab22 interpolate_Arc.bits22 (fun HT_ HW_ => ?_)
            generalize w42.drew = w46 at HO_13 BK142 BK143 HB hHeld ⊢
            refine pu 0 110 (bzz 28 1) (any_of HT_.out (by kernel_rfl)) ?_
            refine pu 1 111 (bzz 28 3) (any_of HT_.out (by kernel_rfl)) ?_
            refine pu 2 112 (bzz 28 7) (any_of HT_.out (by kernel_rfl)) ?_
            refine pu 4 114 (bzz 28 23) (any_of HT_.out (by kernel_rfl)) ?_
            refine pu 6 116 (bzz 28 87) (any_of HT_.out (by kernel_rfl)) ?_
            refine pu 7 117 (bzz 28 215) (any_of HT_.out (by kernel_rfl)) ?_
            refine pu 9 119 (bzz 28 727) (any_of HT_.out (by kernel_rfl)) ?_
            refine pu 11 121 (bzz 28 2775) (any_of HT_.out (by kernel_rfl)) ?_
            refine pu 13 123 (bzz 28 10967) (any_of HT_.out (by kernel_rfl)) ?_
            refine pu 14 124 (bzz 28 27351) (any_of HT_.out (by kernel_rfl)) ?_
            refine pu 16 126 (bzz 28 92887) (any_of HT_.out (by kernel_rfl)) ?_
            refine pu 19 129 (bzz 28 617175) (any_of HT_.out (by kernel_rfl)) ?_
            refine pu 21 131 (bzz 28 2714327) (any_of HT_.out (by kernel_rfl)) ?_
            refine ta 3 113 (bzz 28 2714335) (take_ofW HT_.out HW_.out (by kernel_rfl)) hHeld ?_
            refine pu 5 115 (bzz 28 2714367) (any_of HT_.out (by kernel_rfl)) ?_
            refine ta 8 118 (bzz 28 2714623) (take_ofW HT_.out HW_.out (by kernel_rfl)) hHeld ?_
            refine pu 10 120 (bzz 28 2715647) (any_of HT_.out (by kernel_rfl)) ?_
            refine ta 12 122 (bzz 28 2719743) (take_ofW HT_.out HW_.out (by kernel_rfl)) hHeld ?_
            refine ta 15 125 (bzz 28 2752511) (take_ofW HT_.out HW_.out (by kernel_rfl)) hHeld ?_
            refine ta 17 127 (bzz 28 2883583) (take_ofW HT_.out HW_.out (by kernel_rfl)) hHeld ?_
            refine pu 18 128 (bzz 28 3145727) (any_of HT_.out (by kernel_rfl)) ?_
            refine pu 20 130 (bzz 28 4194303) (any_of HT_.out (by kernel_rfl)) ?_
            refine one_ (i := 22) (N := some 132) (bzz 28 8388607) rfl rfl (one_of HT_.out (by kernel_rfl)) (by decide) (fun K hK => ?_)
            refine goes_ Try.func38 (by kernel_rfl) rfl #[.int .i64 (wrap64 ((wrap64 (a1_3 - a0_2)) * (wrap64 ((x13_2.length : Int) + 1)))), .int .i64 (wrap64 (t148 * t144))] (by rfl) rfl rfl (by (try simp only [List.map_toArray, List.map_cons, List.map_nil]); first | done | rfl | (simp only [List.length_drop, List.length_take]; rfl)) ?_
            with_reducible refine (interpolate_floor.calls (wrap64 ((wrap64 (a1_3 - a0_2)) * (wrap64 ((x13_2.length : Int) + 1)))) (wrap64 (t148 * t144)) t157 _ A40.out).mono ?_
            rintro e w' ⟨rfl, ⟨nd, rfl⟩⟩
            refine ⟨_, rfl, ?_⟩
            refine hK.out _ _ ⟨(blk_cell BK143.out 0).trans rfl, (blk_cell BK143.out 1).trans rfl, (blk_cell BK143.out 2).trans rfl, (blk_cell BK143.out 3).trans rfl, (blk_cell BK143.out 4).trans rfl, (blk_cell BK143.out 5).trans rfl, (blk_cell BK143.out 6).trans rfl, (blk_cell BK142.out 0).trans rfl, (blk_cell BK142.out 1).trans rfl, (blk_cell BK142.out 2).trans rfl⟩ (fun hHeld => ?_)
            clear hK K
            refine norm_ (a' := ?_) ?_ ?_
            rotate_left
            ·show Act.put _ (some 132) _ = _
             simp only [Act.put, List.setIfInBounds_toArray, List.set_cons_zero, List.set_cons_succ, i64_w, i32_w]
             rfl
            refine pu 23 133 (bzz 28 16777215) (any_of HT_.out (by kernel_rfl)) ?_
            refine pu 24 134 (bzz 28 33554431) (any_of HT_.out (by kernel_rfl)) ?_
            refine one_ (i := 25) (N := some 135) (bzz 28 67108863) rfl rfl (one_of HT_.out (by kernel_rfl)) (by decide) (fun K hK => ?_)
            refine value_ (w1 := ?_) (v := ?_) (by rfl) rfl ?_ ?_
            rotate_left 2
            ·go_simp
             constructor
             ·rfl
             ·rfl
            refine hK.out _ _ ⟨(blk_cell (blk_alloc BK143.out _) 0).trans rfl, (blk_cell (blk_alloc BK143.out _) 1).trans rfl, (blk_cell (blk_alloc BK143.out _) 2).trans rfl, (blk_cell (blk_alloc BK143.out _) 3).trans rfl, (blk_cell (blk_alloc BK143.out _) 4).trans rfl, (blk_cell (blk_alloc BK143.out _) 5).trans rfl, (blk_cell (blk_alloc BK143.out _) 6).trans rfl, (blk_cell (blk_alloc BK142.out _) 0).trans rfl, (blk_cell (blk_alloc BK142.out _) 1).trans rfl, (blk_cell (blk_alloc BK142.out _) 2).trans rfl⟩ (fun hHeld => ?_)
            clear hK K
            refine norm_ (a' := ?_) ?_ ?_
            rotate_left
            ·show Act.put _ (some 135) _ = _
             simp only [Act.put, List.setIfInBounds_toArray, List.set_cons_zero, List.set_cons_succ, i64_w, i32_w]
             rfl
            refine one_ (i := 26) (N := some 136) (bzz 28 134217727) rfl rfl (one_of HT_.out (by kernel_rfl)) (by decide) (fun K hK => ?_)
            refine Kd.R_append_step k23 (w0 := w) w.heap.size (by rfl) (.tmp 110) (.tmp 135) 38 23 (.agg #[(.int .i64 0), (.int .i64 0), (.int .i64 0)]) 24 rfl Try.underlying38 info23 rfl (by decide) (by omega) (.slice Ao45 x13_2.length co45) x13_2 (⟨wrap64 (a1_4 + t155), wrap64 (a1_5 + t156), wrap64 (a0_2 + t157)⟩ : S23) [.int .i64 (wrap64 (a1_4 + t155)), .int .i64 (wrap64 (a1_5 + t156)), .int .i64 (wrap64 (a0_2 + t157))] (fun k_ => k_ ≠ gb142) (fun _ => False) rfl rfl ?aP (fun _ hk => hk.elim) ?aF ?aO ?aB ?aS ?aL ?_
            (case aP => exact k23_mkM _ _ _ (⟨wrap64 (a1_4 + t155), wrap64 (a1_5 + t156), wrap64 (a0_2 + t157)⟩ : S23))
            (case aB => exact (by repeat (first | (with_reducible first | exact HB.out | apply below_alloc | apply pw_below_drewN | apply below_drew1 | refine below_set ?_ GE142.out | refine below_set ?_ GE143.out) | exact HB.out)))
            (case aF => exact (fun k_ hk => Kd.freshB (g := gb142) (o := .cells #[.int .i64 a0_0, .int .i64 a0_1, .int .i64 a0_2] 23 (0, 0)) (by (with_reducible repeat (first | refine blk_drewN ?_ _ | refine blk_drew ?_ | refine blk_alloc ?_ _)); exact BK142.out) k_ hk))
            (case aO => exact (by (with_reducible repeat (first | apply Kd.R_alloc | apply Kd.R_drewN | apply Kd.R_drew)); exact HO_13.out))
            (case aS => exact (below_size (by first | exact HB.out | exact pw_below_drewN HB.out _)))
            (case aL => have := LMc41.out; omega)
            intro v159 w47 ho hb hg hat
            rw [← Ny158.out] at ho
            have n0_ := Aside0.mk (blk_grown (g := gb142) (o := .cells #[.int .i64 a0_0, .int .i64 a0_1, .int .i64 a0_2] 23 (0, 0)) (by (with_reducible repeat (first | refine blk_drewN ?_ _ | refine blk_drew ?_ | refine blk_alloc ?_ _)); exact BK142.out) hg (Kd.R_away HO_13.out (fun _ hk => hk)))
            have n1_ := Aside0.mk (blk_grown (g := gb143) (o := .cells #[.int .i64 a1_0, .int .i64 a1_1, .int .i64 a1_2, .int .i64 a1_3, .int .i64 a1_4, .int .i64 a1_5, .int .i64 a1_6] 27 (0, 0)) (by (with_reducible repeat (first | refine blk_drewN ?_ _ | refine blk_drew ?_ | refine blk_alloc ?_ _)); exact BK143.out) hg (Kd.R_ne HO_13.out BK143.out (by decide)))
            have n2_ := Aside0.mk (hb)
            have n3_ := Aside0.mk (ho)
            clear BK142
            clear BK143
            clear HB
            clear HO_13
            have BK142 := n0_
            have BK143 := n1_
            have HB := n2_
            have HO160 := n3_
            clear n0_ n1_ n2_ n3_
            clear ho hb hg hat
            refine hK.out _ _ ⟨(blk_cell BK143.out 0).trans rfl, (blk_cell BK143.out 1).trans rfl, (blk_cell BK143.out 2).trans rfl, (blk_cell BK143.out 3).trans rfl, (blk_cell BK143.out 4).trans rfl, (blk_cell BK143.out 5).trans rfl, (blk_cell BK143.out 6).trans rfl, (blk_cell BK142.out 0).trans rfl, (blk_cell BK142.out 1).trans rfl, (blk_cell BK142.out 2).trans rfl⟩ (fun hHeld => ?_)
            clear hK K
            refine norm_ (a' := ?_) ?_ ?_
            rotate_left
            ·show Act.put _ (some 136) _ = _
             simp only [Act.put, List.setIfInBounds_toArray, List.set_cons_zero, List.set_cons_succ, i64_w, i32_w]
             rfl
            refine pu 27 13 (bzz 28 268435455) (any_of HT_.out (by kernel_rfl)) ?_
            refine done_ (done_of HT_.out (by kernel_rfl)) ?_
            try go_wp2
            go_roundg k2
            case measure => have := HK1.out; have := HK2.out; omega
            case rel => exact ⟨(y158), (wrap64 (x15_2 + 1)), (by first | rfl | (simp; done) | (simp [*]; done)), H', ⟨by have := HK1.out; have := HK2.out; omega⟩, ⟨by (with_reducible repeat (first | apply Kd.R_alloc | apply Kd.R_drewN | apply Kd.R_drew)); exact HO160.out⟩, ⟨by (with_reducible repeat (first | refine blk_drewN ?_ _ | refine blk_drew ?_ | refine blk_alloc ?_ _)); exact BK142.out⟩, ⟨by (with_reducible repeat (first | refine blk_drewN ?_ _ | refine blk_drew ?_ | refine blk_alloc ?_ _)); exact BK143.out⟩, ⟨by repeat (first | (with_reducible first | exact HB.out | apply below_alloc | apply pw_below_drewN | apply below_drew1 | refine below_set ?_ GE142.out | refine below_set ?_ GE143.out) | exact HB.out)⟩⟩
           ·rw [if_neg c41] at H
            exact absurd H (by simp)
        ·rw [if_neg c27] at H
         have c27b0 : decide (x15_2 ≤ t148) = false := decide_eq_false c27
         clear c27
         have H' := Aside0.mk H
         clear H
         go_wp2
         go_roundg k2
         case measure => have := HK1.out; have := HK2.out; omega
         case rel => exact ⟨(x13_2), (wrap64 (x45_1 + 1)), (by first | rfl | (simp; done) | (simp [*]; done)), H', ⟨by have := HK1.out; have := HK2.out; omega⟩, ⟨by (with_reducible repeat (first | apply Kd.R_alloc | apply Kd.R_drewN | apply Kd.R_drew)); exact HO_13.out⟩, ⟨by (with_reducible repeat (first | refine blk_drewN ?_ _ | refine blk_drew ?_ | refine blk_alloc ?_ _)); exact BK142.out⟩, ⟨by (with_reducible repeat (first | refine blk_drewN ?_ _ | refine blk_drew ?_ | refine blk_alloc ?_ _)); exact BK143.out⟩, ⟨by repeat (first | (with_reducible first | exact HB.out | apply below_alloc | apply pw_below_drewN | apply below_drew1 | refine below_set ?_ GE142.out | refine below_set ?_ GE143.out) | exact HB.out)⟩⟩
     ·rw [if_neg c26] at H
      have c26b0 : decide (x45_1 < t144) = false := decide_eq_false c26
      clear c26
      simp only [Option.some.injEq, Prod.mk.injEq] at H
      obtain ⟨rfl, rfl⟩ := H
      go_wp2
      go_ret2
      exact ⟨_, by first | rfl | (simp [errW_none, errW_some] <;> rfl) | (simp [*, errW_none, errW_some] <;> rfl), by (with_reducible repeat (first | apply Kd.R_alloc | apply Kd.R_drewN | apply Kd.R_drew)); exact Kd.R_mono HO_13.out (fun _ hk => trivial), by repeat (first | (with_reducible first | exact HB.out | apply below_alloc | apply pw_below_drewN | apply below_drew1 | refine below_set ?_ GE142.out | refine below_set ?_ GE143.out) | exact HB.out)⟩
 ·rw [if_neg c4] at H
  have c4b0 : (t145 == 0) = false := beq_eq_false_iff_ne.mpr c4
  have c4b1 : (t145 != 0) = true := bne_iff_ne.mpr c4
  simp only [Option.some.injEq, Prod.mk.injEq] at H
  obtain ⟨rfl, rfl⟩ := H
  go_enter Try.func18, Try.ntmps18
  go_wp2_with (first | ((with_reducible refine gate_dst (N := 2) rfl ?_); refine box_event ?hg (N := 2) ?hd (cs := #[.int .i64 a0_0, .int .i64 a0_1, .int .i64 a0_2]) (t := 23) ?hr ?_; (case hd => rfl); (case hg => rfl); (case hr => first | (go_simp; done) | (go_simp; rfl)); intro gb142 hg w48 hbox hb; have n0_ := Aside0.mk (below_step (by first | exact HB.out | exact pw_below_drewN HB.out _) hb); have n1_ := Aside0.mk (hbox); have n2_ := Aside0.mk ((by rw [hg]; exact (below_size (by first | exact HB.out | exact pw_below_drewN HB.out _)) : w.heap.size ≤ gb142)); have n3_ := Aside0.mk ((by rw [hg]; exact (below_size (by first | exact HB.out | exact pw_below_drewN HB.out _)) : w.heap.size ≤ gb142)); clear HB; have HB := n0_; have BK142 := n1_; have GW142 := n2_; have GE142 := n3_; clear n0_ n1_ n2_ n3_; clear hb hbox hg) | ((with_reducible refine gate_dst (N := 3) rfl ?_); refine box_event ?hg (N := 3) ?hd (cs := #[.int .i64 a1_0, .int .i64 a1_1, .int .i64 a1_2, .int .i64 a1_3, .int .i64 a1_4, .int .i64 a1_5, .int .i64 a1_6]) (t := 27) ?hr ?_; (case hd => rfl); (case hg => rfl); (case hr => first | (go_simp; done) | (go_simp; rfl)); intro gb143 hg w49 hbox hb; have n0_ := Aside0.mk (blk_below (by exact BK142.out) hb); have n1_ := Aside0.mk (below_step (by first | exact HB.out | exact pw_below_drewN HB.out _) hb); have n2_ := Aside0.mk (hbox); have n3_ := Aside0.mk ((by rw [hg]; exact (below_size (by first | exact HB.out | exact pw_below_drewN HB.out _)) : w.heap.size ≤ gb143)); have n4_ := Aside0.mk ((by rw [hg]; exact (below_size (by first | exact HB.out | exact pw_below_drewN HB.out _)) : w.heap.size ≤ gb143)); have n5_ := Aside0.mk ((by rw [hg]; exact Nat.ne_of_lt (blk_lt (g := gb142) (o := .cells #[.int .i64 a0_0, .int .i64 a0_1, .int .i64 a0_2] 23 (0, 0)) (by (with_reducible repeat (first | refine blk_drewN ?_ _ | refine blk_drew ?_ | refine blk_alloc ?_ _)); exact BK142.out)) : gb142 ≠ gb143)); have n6_ := Aside0.mk ((by rw [hg]; exact Nat.ne_of_gt (blk_lt (g := gb142) (o := .cells #[.int .i64 a0_0, .int .i64 a0_1, .int .i64 a0_2] 23 (0, 0)) (by (with_reducible repeat (first | refine blk_drewN ?_ _ | refine blk_drew ?_ | refine blk_alloc ?_ _)); exact BK142.out)) : gb143 ≠ gb142)); clear BK142; clear HB; have BK142 := n0_; have HB := n1_; have BK143 := n2_; have GW143 := n3_; have GE143 := n4_; have NB142_143 := n5_; have NB143_142 := n6_; clear n0_ n1_ n2_ n3_ n4_ n5_ n6_; clear hb hbox hg; have hnb50 := NB142_143.out; have hnc50 := NB143_142.out; obtain ⟨hcz51_0, hcz51_1, hcz51_2⟩ := cells3 BK142.out; obtain ⟨hcz52_0, hcz52_1, hcz52_2, hcz52_3, hcz52_4, hcz52_5, hcz52_6⟩ := cells7 BK143.out) | ((with_reducible refine gate_callee (f := 12) rfl ?_); refine goesL_ (some 22) rfl rfl Try.func12 (by kernel_rfl) rfl #[.agg #[.int .i64 a0_0, .int .i64 a0_1, .int .i64 a0_2], .agg #[.int .i64 a1_0, .int .i64 a1_1, .int .i64 a1_2, .int .i64 a1_3, .int .i64 a1_4, .int .i64 a1_5, .int .i64 a1_6]] rfl (by (try simp only [List.map_toArray, List.map_cons, List.map_nil]); first | done | rfl | (simp only [List.length_drop, List.length_take]; rfl)) ?_; (with_reducible refine (interpolate_Quarters.calls k a0_0 a0_1 a0_2 a1_0 a1_1 a1_2 a1_3 a1_4 a1_5 a1_6 t144 t145 _ A3.out).mono ?_); rintro e w53 ⟨rfl, hb⟩; refine ⟨_, rfl, ?_⟩; have n0_ := Aside0.mk (blk_below (by exact BK142.out) hb); have n1_ := Aside0.mk (blk_below (by exact BK143.out) hb); have n2_ := Aside0.mk (below_step (by first | exact HB.out | exact pw_below_drewN HB.out _) hb); clear BK142; clear BK143; clear HB; have BK142 := n0_; have BK143 := n1_; have HB := n2_; clear n0_ n1_ n2_; (try clear hb); (try clear hb2); (try clear hk); (try clear hi)))
  go_ret2
  exact ⟨_, by first | rfl | (simp [errW_none, errW_some] <;> rfl) | (simp [*, errW_none, errW_some] <;> rfl), by first | exact Kd.R_nil _ _ _ _ _ | exact Kd.N_nil _ _ _ _ _ | exact Kd.V_nil _ _ _ _ _ | exact Kd.Q_nil _ _ _ _ _ | exact Kd.S_nil _ _ _ _ _, by repeat (first | (with_reducible first | exact HB.out | apply below_alloc | apply pw_below_drewN | apply below_drew1 | refine below_set ?_ GE142.out | refine below_set ?_ GE143.out) | exact HB.out)⟩
end Go.Proofs.Ytblonchpophnkaa.F
