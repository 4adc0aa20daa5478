-- The machine side of a proof, written by a program of the session out of Lean's print of the loaded functions. Lean checks it.
import Derived.Test.YtblonchpophnkaaFx0
import Derived.Test.YtblonchpophnkaaWj
import Derived.Test.YtblonchpophnkaaFx11
import Derived.Test.YtblonchpophnkaaFx13
import Derived.Test.YtblonchpophnkaaFx19
import Derived.Test.YtblonchpophnkaaFx25
namespace Go.Proofs.Ytblonchpophnkaa.F
open Go.RowKit Go.Proofs.YtblonchpophnkaaW.PrintWords Go.Proofs.YtblonchpophnkaaW.PrintLast Go.Proofs.YtblonchpophnkaaW.PrintMore
attribute [local go_sem] max2_int min2_int max_two min_two max_three min_three max_four min_four   -- for this text's walks alone
set_option linter.unusedVariables false
set_option linter.unusedSimpArgs false
mutual
def swarflaw33_InterpolateMirrored.j0 : Nat → Bool → Int → Int → Int → Int → Int → Int → Int → Int → Int → Int → Option (Bool)
 | 0, _, _, _, _, _, _, _, _, _, _, _ => none
 | k + 1, x26, x316000, x316001, x316002, x317000, x317001, x317002, x317003, x317004, x317005, x317006 => if x26 = true then ((swarflaw33_awake.f k).bind fun t323 => (some t323)) else (if x317000 = 3 then (swarflaw33_InterpolateMirrored.j1 k x316000 x316001 x316002 x317000 x317001 x317002 x317003 x317004 x317005 x317006 x316000 (wrap64 (-x316001)) x316002 4 x317001 (wrap64 (-x317002)) x317003 x317004 (wrap64 (-x317005)) x317006) else (if x317000 = 4 then (swarflaw33_InterpolateMirrored.j1 k x316000 x316001 x316002 x317000 x317001 x317002 x317003 x317004 x317005 x317006 x316000 (wrap64 (-x316001)) x316002 3 x317001 (wrap64 (-x317002)) x317003 x317004 (wrap64 (-x317005)) x317006) else (some true)))
def swarflaw33_InterpolateMirrored.j1 : Nat → Int → Int → Int → Int → Int → Int → Int → Int → Int → Int → Int → Int → Int → Int → Int → Int → Int → Int → Int → Int → Option (Bool)
 | 0, _, _, _, _, _, _, _, _, _, _, _, _, _, _, _, _, _, _, _, _ => none
 | k + 1, x316000, x316001, x316002, x317000, x317001, x317002, x317003, x317004, x317005, x317006, x325000, x325001, x325002, x326000, x326001, x326002, x326003, x326004, x326005, x326006 => (interpolate_Arc.f k x316000 x316001 x316002 x317000 x317001 x317002 x317003 x317004 x317005 x317006).bind fun bt326 => ((interpolate_Arc.f k x325000 x325001 x325002 x326000 x326001 x326002 x326003 x326004 x326005 x326006).bind fun bt330 => (if bt326.2 = 0 then (if bt330.2 = 0 then (swarflaw33_InterpolateMirrored.j2 k bt326.1 bt330.1 ((bt326.1.length : Int) != (bt330.1.length : Int))) else (swarflaw33_InterpolateMirrored.j2 k bt326.1 bt330.1 true)) else (swarflaw33_InterpolateMirrored.j2 k bt326.1 bt330.1 true)))
def swarflaw33_InterpolateMirrored.j2 : Nat → List (S23) → List (S23) → Bool → Option (Bool)
 | 0, _, _, _ => none
 | k + 1, x7, x9, x78 => if x78 = true then (some false) else (swarflaw33_InterpolateMirrored.l0 k x7 x9 (x7.length : Int) 0)
def swarflaw33_InterpolateMirrored.l0 : Nat → List (S23) → List (S23) → Int → Int → Option (Bool)
 | 0, _, _, _, _ => none
 | k + 1, x7, x9, x80, x81 => if x81 < x80 then (if 0 ≤ x81 then (if x81 < (x7.length : Int) then (if x81 < (x9.length : Int) then (if ((rd_T23 x7 x81).f0) = ((rd_T23 x9 x81).f0) then (if ((rd_T23 x7 x81).f1) = (wrap64 (-((rd_T23 x9 x81).f1))) then (if ((rd_T23 x7 x81).f2) = ((rd_T23 x9 x81).f2) then (swarflaw33_InterpolateMirrored.l0 k x7 x9 x80 (wrap64 (x81 + 1))) else (some false)) else (some false)) else (some false)) else (none)) else (none)) else (none)) else (some true)
end
def swarflaw33_InterpolateMirrored.f (k : Nat) (a0_0 : Int) (a0_1 : Int) (a0_2 : Int) (a1_0 : Int) (a1_1 : Int) (a1_2 : Int) (a1_3 : Int) (a1_4 : Int) (a1_5 : Int) (a1_6 : Int) : Option (Bool) := (swarflaw33_awake.f k).bind fun t317 => (if t317 = true then ((swarfref33_Few.f k a0_0 a0_1 a0_2 (([(⟨a1_0, (⟨a1_1, a1_2, a1_3⟩ : S23), (⟨a1_4, a1_5⟩ : S25), a1_6⟩ : S27)] : List (S27))) 1).bind fun t321 => (if t321 = true then ((swarfref33_Valid.f k a0_0 a0_1 a0_2 a1_0 a1_1 a1_2 a1_3 a1_4 a1_5 a1_6).bind fun t322 => (swarflaw33_InterpolateMirrored.j0 k (t322 != 0) a0_0 a0_1 a0_2 a1_0 a1_1 a1_2 a1_3 a1_4 a1_5 a1_6)) else (swarflaw33_InterpolateMirrored.j0 k true a0_0 a0_1 a0_2 a1_0 a1_1 a1_2 a1_3 a1_4 a1_5 a1_6))) else (swarflaw33_InterpolateMirrored.j0 k true a0_0 a0_1 a0_2 a1_0 a1_1 a1_2 a1_3 a1_4 a1_5 a1_6))
theorem swarflaw33_InterpolateMirrored.mono_l : ∀ k, (∀ y0 y1 y2 y3 y4 y5 y6 y7 y8 y9 y10, LeO (swarflaw33_InterpolateMirrored.j0 k y0 y1 y2 y3 y4 y5 y6 y7 y8 y9 y10) (swarflaw33_InterpolateMirrored.j0 (k + 1) y0 y1 y2 y3 y4 y5 y6 y7 y8 y9 y10)) ∧ (∀ y0 y1 y2 y3 y4 y5 y6 y7 y8 y9 y10 y11 y12 y13 y14 y15 y16 y17 y18 y19, LeO (swarflaw33_InterpolateMirrored.j1 k y0 y1 y2 y3 y4 y5 y6 y7 y8 y9 y10 y11 y12 y13 y14 y15 y16 y17 y18 y19) (swarflaw33_InterpolateMirrored.j1 (k + 1) y0 y1 y2 y3 y4 y5 y6 y7 y8 y9 y10 y11 y12 y13 y14 y15 y16 y17 y18 y19)) ∧ (∀ y0 y1 y2, LeO (swarflaw33_InterpolateMirrored.j2 k y0 y1 y2) (swarflaw33_InterpolateMirrored.j2 (k + 1) y0 y1 y2)) ∧ (∀ y0 y1 y2 y3, LeO (swarflaw33_InterpolateMirrored.l0 k y0 y1 y2 y3) (swarflaw33_InterpolateMirrored.l0 (k + 1) y0 y1 y2 y3))
 | 0 => ⟨fun _ _ _ _ _ _ _ _ _ _ _ r h => by simp [swarflaw33_InterpolateMirrored.j0] at h, fun _ _ _ _ _ _ _ _ _ _ _ _ _ _ _ _ _ _ _ _ r h => by simp [swarflaw33_InterpolateMirrored.j1] at h, fun _ _ _ r h => by simp [swarflaw33_InterpolateMirrored.j2] at h, fun _ _ _ _ r h => by simp [swarflaw33_InterpolateMirrored.l0] at h⟩
 | k + 1 => by
  obtain ⟨ih0, ih1, ih2, ih3⟩ := swarflaw33_InterpolateMirrored.mono_l k
  refine ⟨?_, ?_, ?_, ?_⟩
  ·intro y0 y1 y2 y3 y4 y5 y6 y7 y8 y9 y10
   unfold swarflaw33_InterpolateMirrored.j0
   repeat' first
   | (with_reducible exact ih0 _ _ _ _ _ _ _ _ _ _ _)
   | (with_reducible exact ih1 _ _ _ _ _ _ _ _ _ _ _ _ _ _ _ _ _ _ _ _)
   | (with_reducible exact ih2 _ _ _)
   | (with_reducible exact ih3 _ _ _ _)
   | (with_reducible exact interpolate_Arc.mono _ _ _ _ _ _ _ _ _ _ _)
   | (with_reducible exact swarflaw33_awake.mono _)
   | (with_reducible exact swarfref33_Few.mono _ _ _ _ _ _)
   | (with_reducible exact swarfref33_Valid.mono _ _ _ _ _ _ _ _ _ _ _)
   | (with_reducible exact LeO.refl _)
   | (with_reducible exact LeO.none _)
   | (with_reducible refine LeO.ite ?_ ?_)
   | (with_reducible refine LeO.bind ?_ (fun _ => ?_))
   | exact ih0 _ _ _ _ _ _ _ _ _ _ _
   | exact ih1 _ _ _ _ _ _ _ _ _ _ _ _ _ _ _ _ _ _ _ _
   | exact ih2 _ _ _
   | exact ih3 _ _ _ _
   | exact interpolate_Arc.mono _ _ _ _ _ _ _ _ _ _ _
   | exact swarflaw33_awake.mono _
   | exact swarfref33_Few.mono _ _ _ _ _ _
   | exact swarfref33_Valid.mono _ _ _ _ _ _ _ _ _ _ _
   | exact LeO.none _
   | refine LeO.ite ?_ ?_
   | refine LeO.bind ?_ (fun _ => ?_)
  ·intro y0 y1 y2 y3 y4 y5 y6 y7 y8 y9 y10 y11 y12 y13 y14 y15 y16 y17 y18 y19
   unfold swarflaw33_InterpolateMirrored.j1
   repeat' first
   | (with_reducible exact ih0 _ _ _ _ _ _ _ _ _ _ _)
   | (with_reducible exact ih1 _ _ _ _ _ _ _ _ _ _ _ _ _ _ _ _ _ _ _ _)
   | (with_reducible exact ih2 _ _ _)
   | (with_reducible exact ih3 _ _ _ _)
   | (with_reducible exact interpolate_Arc.mono _ _ _ _ _ _ _ _ _ _ _)
   | (with_reducible exact swarflaw33_awake.mono _)
   | (with_reducible exact swarfref33_Few.mono _ _ _ _ _ _)
   | (with_reducible exact swarfref33_Valid.mono _ _ _ _ _ _ _ _ _ _ _)
   | (with_reducible exact LeO.refl _)
   | (with_reducible exact LeO.none _)
   | (with_reducible refine LeO.ite ?_ ?_)
   | (with_reducible refine LeO.bind ?_ (fun _ => ?_))
   | exact ih0 _ _ _ _ _ _ _ _ _ _ _
   | exact ih1 _ _ _ _ _ _ _ _ _ _ _ _ _ _ _ _ _ _ _ _
   | exact ih2 _ _ _
   | exact ih3 _ _ _ _
   | exact interpolate_Arc.mono _ _ _ _ _ _ _ _ _ _ _
   | exact swarflaw33_awake.mono _
   | exact swarfref33_Few.mono _ _ _ _ _ _
   | exact swarfref33_Valid.mono _ _ _ _ _ _ _ _ _ _ _
   | exact LeO.none _
   | refine LeO.ite ?_ ?_
   | refine LeO.bind ?_ (fun _ => ?_)
  ·intro y0 y1 y2
   unfold swarflaw33_InterpolateMirrored.j2
   repeat' first
   | (with_reducible exact ih0 _ _ _ _ _ _ _ _ _ _ _)
   | (with_reducible exact ih1 _ _ _ _ _ _ _ _ _ _ _ _ _ _ _ _ _ _ _ _)
   | (with_reducible exact ih2 _ _ _)
   | (with_reducible exact ih3 _ _ _ _)
   | (with_reducible exact interpolate_Arc.mono _ _ _ _ _ _ _ _ _ _ _)
   | (with_reducible exact swarflaw33_awake.mono _)
   | (with_reducible exact swarfref33_Few.mono _ _ _ _ _ _)
   | (with_reducible exact swarfref33_Valid.mono _ _ _ _ _ _ _ _ _ _ _)
   | (with_reducible exact LeO.refl _)
   | (with_reducible exact LeO.none _)
   | (with_reducible refine LeO.ite ?_ ?_)
   | (with_reducible refine LeO.bind ?_ (fun _ => ?_))
   | exact ih0 _ _ _ _ _ _ _ _ _ _ _
   | exact ih1 _ _ _ _ _ _ _ _ _ _ _ _ _ _ _ _ _ _ _ _
   | exact ih2 _ _ _
   | exact ih3 _ _ _ _
   | exact interpolate_Arc.mono _ _ _ _ _ _ _ _ _ _ _
   | exact swarflaw33_awake.mono _
   | exact swarfref33_Few.mono _ _ _ _ _ _
   | exact swarfref33_Valid.mono _ _ _ _ _ _ _ _ _ _ _
   | exact LeO.none _
   | refine LeO.ite ?_ ?_
   | refine LeO.bind ?_ (fun _ => ?_)
  ·intro y0 y1 y2 y3
   unfold swarflaw33_InterpolateMirrored.l0
   repeat' first
   | (with_reducible exact ih0 _ _ _ _ _ _ _ _ _ _ _)
   | (with_reducible exact ih1 _ _ _ _ _ _ _ _ _ _ _ _ _ _ _ _ _ _ _ _)
   | (with_reducible exact ih2 _ _ _)
   | (with_reducible exact ih3 _ _ _ _)
   | (with_reducible exact interpolate_Arc.mono _ _ _ _ _ _ _ _ _ _ _)
   | (with_reducible exact swarflaw33_awake.mono _)
   | (with_reducible exact swarfref33_Few.mono _ _ _ _ _ _)
   | (with_reducible exact swarfref33_Valid.mono _ _ _ _ _ _ _ _ _ _ _)
   | (with_reducible exact LeO.refl _)
   | (with_reducible exact LeO.none _)
   | (with_reducible refine LeO.ite ?_ ?_)
   | (with_reducible refine LeO.bind ?_ (fun _ => ?_))
   | exact ih0 _ _ _ _ _ _ _ _ _ _ _
   | exact ih1 _ _ _ _ _ _ _ _ _ _ _ _ _ _ _ _ _ _ _ _
   | exact ih2 _ _ _
   | exact ih3 _ _ _ _
   | exact interpolate_Arc.mono _ _ _ _ _ _ _ _ _ _ _
   | exact swarflaw33_awake.mono _
   | exact swarfref33_Few.mono _ _ _ _ _ _
   | exact swarfref33_Valid.mono _ _ _ _ _ _ _ _ _ _ _
   | exact LeO.none _
   | refine LeO.ite ?_ ?_
   | refine LeO.bind ?_ (fun _ => ?_)
theorem swarflaw33_InterpolateMirrored.mono : ∀ a0 a1 a2 a3 a4 a5 a6 a7 a8 a9 k, LeO (swarflaw33_InterpolateMirrored.f k a0 a1 a2 a3 a4 a5 a6 a7 a8 a9) (swarflaw33_InterpolateMirrored.f (k + 1) a0 a1 a2 a3 a4 a5 a6 a7 a8 a9) := by
 intro a0 a1 a2 a3 a4 a5 a6 a7 a8 a9 k
 obtain ⟨ih0, ih1, ih2, ih3⟩ := swarflaw33_InterpolateMirrored.mono_l k
 unfold swarflaw33_InterpolateMirrored.f
 repeat' first
   | (with_reducible exact ih0 _ _ _ _ _ _ _ _ _ _ _)
   | (with_reducible exact ih1 _ _ _ _ _ _ _ _ _ _ _ _ _ _ _ _ _ _ _ _)
   | (with_reducible exact ih2 _ _ _)
   | (with_reducible exact ih3 _ _ _ _)
   | (with_reducible exact interpolate_Arc.mono _ _ _ _ _ _ _ _ _ _ _)
   | (with_reducible exact swarflaw33_awake.mono _)
   | (with_reducible exact swarfref33_Few.mono _ _ _ _ _ _)
   | (with_reducible exact swarfref33_Valid.mono _ _ _ _ _ _ _ _ _ _ _)
   | (with_reducible exact LeO.refl _)
   | (with_reducible exact LeO.none _)
   | (with_reducible refine LeO.ite ?_ ?_)
   | (with_reducible refine LeO.bind ?_ (fun _ => ?_))
   | exact ih0 _ _ _ _ _ _ _ _ _ _ _
   | exact ih1 _ _ _ _ _ _ _ _ _ _ _ _ _ _ _ _ _ _ _ _
   | exact ih2 _ _ _
   | exact ih3 _ _ _ _
   | exact interpolate_Arc.mono _ _ _ _ _ _ _ _ _ _ _
   | exact swarflaw33_awake.mono _
   | exact swarfref33_Few.mono _ _ _ _ _ _
   | exact swarfref33_Valid.mono _ _ _ _ _ _ _ _ _ _ _
   | exact LeO.none _
   | refine LeO.ite ?_ ?_
   | refine LeO.bind ?_ (fun _ => ?_)
def swarflaw33_InterpolateMirrored.T4 : Bool × List (List Nat × List Nat) := (true, [([], []), ([0], [0]), ([1], [1]), ([], []), ([3], [3]), ([4], [4]), ([5], [5]), ([], []), ([7], [7]), ([8], [8]), ([9], [9]), ([0, 1, 2], []), ([11, 2, 0, 1, 2], [2, 11]), ([0, 1, 2, 3, 4, 5, 6, 11, 12], []), ([13, 0, 1, 2, 3, 4, 5, 6, 11, 12], [13]), ([14, 6, 12, 0, 1, 2, 3, 4, 5, 6, 11, 12], [6, 14]), ([0, 1, 2, 3, 4, 5, 6, 7, 8, 9, 10, 11, 12, 13, 14, 15], []), ([16, 0, 1, 2, 3, 4, 5, 6, 7, 8, 9, 10, 11, 12, 13, 14, 15], [16]), ([17, 10, 15, 0, 1, 2, 3, 4, 5, 6, 7, 8, 9, 10, 11, 12, 13, 14, 15], [10, 17])])
def swarflaw33_InterpolateMirrored.B4 : List Nat := [0, 1, 3, 0, 8, 24, 56, 0, 128, 384, 896, 7, 2055, 6271, 14463, 30847, 65535, 131071, 262143]
theorem swarflaw33_InterpolateMirrored.tab4 : rtab .any (opsOf Try.f8 4) = swarflaw33_InterpolateMirrored.T4 := by kernel_rfl
theorem swarflaw33_InterpolateMirrored.bits4 : waitsOk swarflaw33_InterpolateMirrored.T4.2 swarflaw33_InterpolateMirrored.B4 = true := by kernel_rfl
def swarflaw33_InterpolateMirrored.T18 : Bool × List (List Nat × List Nat) := (true, [([], []), ([], []), ([0, 1], [0, 1]), ([2], [2]), ([3], [3]), ([], []), ([], []), ([5, 6], [5, 6]), ([7], [7]), ([8], [8]), ([4, 9], [4, 9]), ([10], [10]), ([11], [11]), ([11], [11]), ([12, 13, 11], [11, 12, 13]), ([14, 11], [11, 14]), ([15, 11], [11, 15]), ([11], [11]), ([11], [11]), ([17, 18, 11], [11, 17, 18]), ([19, 11], [11, 19]), ([20, 11], [11, 20]), ([21, 11], [11, 21]), ([16, 22, 11], [11, 16, 22]), ([11, 23], [11, 23]), ([24, 11], [24]), ([25], [25]), ([25], [25]), ([26, 27, 25], [25, 26, 27]), ([28, 25], [25, 28]), ([29, 25], [25, 29]), ([25], [25]), ([25], [25]), ([31, 32, 25], [25, 31, 32]), ([33, 25], [25, 33]), ([34, 25], [25, 34]), ([30, 35, 25], [25, 30, 35]), ([25, 36], [25, 36])])
def swarflaw33_InterpolateMirrored.B18 : List Nat := [0, 0, 3, 7, 15, 0, 0, 96, 224, 480, 1023, 2047, 4095, 4095, 16383, 32767, 65535, 4095, 4095, 397311, 921599, 1970175, 4067327, 8388607, 16777215, 33554431, 67108863, 67108863, 268435455, 536870911, 1073741823, 67108863, 67108863, 6509559807, 15099494399, 32279363583, 68719476735, 137438953471]
theorem swarflaw33_InterpolateMirrored.tab18 : rtab .any (opsOf Try.f8 18) = swarflaw33_InterpolateMirrored.T18 := by kernel_rfl
theorem swarflaw33_InterpolateMirrored.bits18 : waitsOk swarflaw33_InterpolateMirrored.T18.2 swarflaw33_InterpolateMirrored.B18 = true := by kernel_rfl
set_option maxHeartbeats 8000000 in
set_option maxRecDepth 100000 in
theorem swarflaw33_InterpolateMirrored.calls (k : Nat) (a0_0 : Int) (a0_1 : Int) (a0_2 : Int) (a1_0 : Int) (a1_1 : Int) (a1_2 : Int) (a1_3 : Int) (a1_4 : Int) (a1_5 : Int) (a1_6 : Int) (r : Bool) (w : World) (h : swarflaw33_InterpolateMirrored.f k a0_0 a0_1 a0_2 a1_0 a1_1 a1_2 a1_3 a1_4 a1_5 a1_6 = some r) :
  Calls Try.prog 8 #[.agg #[.int .i64 a0_0, .int .i64 a0_1, .int .i64 a0_2], .agg #[.int .i64 a1_0, .int .i64 a1_1, .int .i64 a1_2, .int .i64 a1_3, .int .i64 a1_4, .int .i64 a1_5, .int .i64 a1_6]] w fun e w' => e = .returned (.bool r) ∧ Below w.heap.size w w' := by
 have hu23 := Try.underlying23
 have hu27 := Try.underlying27
 have HB := Aside0.mk (Below.refl w.heap.size w)
 have H : ((swarflaw33_awake.f k).bind fun t317 => (if t317 = true then ((swarfref33_Few.f k a0_0 a0_1 a0_2 (([(⟨a1_0, (⟨a1_1, a1_2, a1_3⟩ : S23), (⟨a1_4, a1_5⟩ : S25), a1_6⟩ : S27)] : List (S27))) 1).bind fun t321 => (if t321 = true then ((swarfref33_Valid.f k a0_0 a0_1 a0_2 a1_0 a1_1 a1_2 a1_3 a1_4 a1_5 a1_6).bind fun t322 => (swarflaw33_InterpolateMirrored.j0 k (t322 != 0) a0_0 a0_1 a0_2 a1_0 a1_1 a1_2 a1_3 a1_4 a1_5 a1_6)) else (swarflaw33_InterpolateMirrored.j0 k true a0_0 a0_1 a0_2 a1_0 a1_1 a1_2 a1_3 a1_4 a1_5 a1_6))) else (swarflaw33_InterpolateMirrored.j0 k true a0_0 a0_1 a0_2 a1_0 a1_1 a1_2 a1_3 a1_4 a1_5 a1_6))) = some r := h
 clear h
 have HC3 := Aside0.mk H
 clear H
 go_enter Try.func8, Try.ntmps8
 go_upto_region 1 with (first | ((with_reducible refine gate_dst (N := 2) rfl ?_); (try (refine gate_guard (by rfl) ?_; dsimp only)); refine box_event ?hg (N := 2) ?hd (cs := #[.int .i64 a0_0, .int .i64 a0_1, .int .i64 a0_2]) (t := 23) ?hr ?_; (case hd => rfl); (case hg => rfl); (case hr => first | (go_simp; done) | (go_simp; rfl)); intro gb315 hg w4 hbox hb; have n0_ := Aside0.mk (below_step (by repeat (first | (with_reducible first | exact HB.out | apply below_alloc | apply pw_below_drewN | apply below_drew1) | exact HB.out)) hb); have n1_ := Aside0.mk (hbox); have n2_ := Aside0.mk ((by rw [hg]; exact (below_size (by repeat (first | (with_reducible first | exact HB.out | apply below_alloc | apply pw_below_drewN | apply below_drew1) | exact HB.out))) : w.heap.size ≤ gb315)); have n3_ := Aside0.mk ((by rw [hg]; exact (below_size (by repeat (first | (with_reducible first | exact HB.out | apply below_alloc | apply pw_below_drewN | apply below_drew1) | exact HB.out))) : w.heap.size ≤ gb315)); clear HB; have HB := n0_; have BK315 := n1_; have GW315 := n2_; have GE315 := n3_; clear n0_ n1_ n2_ n3_; clear hb hbox hg) | ((with_reducible refine gate_dst (N := 3) rfl ?_); (try (refine gate_guard (by rfl) ?_; dsimp only)); refine box_event ?hg (N := 3) ?hd (cs := #[.int .i64 a1_0, .int .i64 a1_1, .int .i64 a1_2, .int .i64 a1_3, .int .i64 a1_4, .int .i64 a1_5, .int .i64 a1_6]) (t := 27) ?hr ?_; (case hd => rfl); (case hg => rfl); (case hr => first | (go_simp; done) | (go_simp; rfl)); intro gb316 hg w5 hbox hb; have n0_ := Aside0.mk (blk_below (g := gb315) (o := .cells #[.int .i64 a0_0, .int .i64 a0_1, .int .i64 a0_2] 23 (0, 0)) (by (with_reducible repeat (first | refine blk_drewN ?_ _ | refine blk_drew ?_ | refine blk_alloc ?_ _)); exact BK315.out) hb); have n1_ := Aside0.mk (below_step (by repeat (first | (with_reducible first | exact HB.out | apply below_alloc | apply pw_below_drewN | apply below_drew1 | refine below_set ?_ GE315.out) | exact HB.out)) hb); have n2_ := Aside0.mk (hbox); have n3_ := Aside0.mk ((by rw [hg]; exact (below_size (by repeat (first | (with_reducible first | exact HB.out | apply below_alloc | apply pw_below_drewN | apply below_drew1 | refine below_set ?_ GE315.out) | exact HB.out))) : w.heap.size ≤ gb316)); have n4_ := Aside0.mk ((by rw [hg]; exact (below_size (by repeat (first | (with_reducible first | exact HB.out | apply below_alloc | apply pw_below_drewN | apply below_drew1 | refine below_set ?_ GE315.out) | exact HB.out))) : w.heap.size ≤ gb316)); have n5_ := Aside0.mk ((by rw [hg]; exact Nat.ne_of_lt (blk_lt (g := gb315) (o := .cells #[.int .i64 a0_0, .int .i64 a0_1, .int .i64 a0_2] 23 (0, 0)) (by (with_reducible repeat (first | refine blk_drewN ?_ _ | refine blk_drew ?_ | refine blk_alloc ?_ _)); exact BK315.out)) : gb315 ≠ gb316)); have n6_ := Aside0.mk ((by rw [hg]; exact Nat.ne_of_gt (blk_lt (g := gb315) (o := .cells #[.int .i64 a0_0, .int .i64 a0_1, .int .i64 a0_2] 23 (0, 0)) (by (with_reducible repeat (first | refine blk_drewN ?_ _ | refine blk_drew ?_ | refine blk_alloc ?_ _)); exact BK315.out)) : gb316 ≠ gb315)); clear BK315; clear HB; have BK315 := n0_; have HB := n1_; have BK316 := n2_; have GW316 := n3_; have GE316 := n4_; have NB315_316 := n5_; have NB316_315 := n6_; clear n0_ n1_ n2_ n3_ n4_ n5_ n6_; clear hb hbox hg))
 (try simp only [Act.put, List.setIfInBounds_toArray, List.set_cons_zero, List.set_cons_succ])
 go_cut [26] (fun v26 wc => ∃ (kq : Nat) (x26_2 : Bool), v26 = .bool x26_2 ∧ Aside0 (swarflaw33_InterpolateMirrored.j0 kq x26_2 a0_0 a0_1 a0_2 a1_0 a1_1 a1_2 a1_3 a1_4 a1_5 a1_6 = some r) ∧ Aside0 (kq ≤ k) ∧ Aside0 (wc.heap[gb315]? = some (.cells #[.int .i64 a0_0, .int .i64 a0_1, .int .i64 a0_2] 23 (0, 0))) ∧ Aside0 (wc.heap[gb316]? = some (.cells #[.int .i64 a1_0, .int .i64 a1_1, .int .i64 a1_2, .int .i64 a1_3, .int .i64 a1_4, .int .i64 a1_5, .int .i64 a1_6] 27 (0, 0))) ∧ Aside0 (Below w.heap.size w wc))
 case first =>
  have H := HC3.out
  clear HC3
  replace H := Option.bind_eq_some_iff.mp H
  obtain ⟨t317, A60, H⟩ := H
  replace H : (if t317 = true then ((swarfref33_Few.f k a0_0 a0_1 a0_2 (([(⟨a1_0, (⟨a1_1, a1_2, a1_3⟩ : S23), (⟨a1_4, a1_5⟩ : S25), a1_6⟩ : S27)] : List (S27))) 1).bind fun t321 => (if t321 = true then ((swarfref33_Valid.f k a0_0 a0_1 a0_2 a1_0 a1_1 a1_2 a1_3 a1_4 a1_5 a1_6).bind fun t322 => (swarflaw33_InterpolateMirrored.j0 k (t322 != 0) a0_0 a0_1 a0_2 a1_0 a1_1 a1_2 a1_3 a1_4 a1_5 a1_6)) else (swarflaw33_InterpolateMirrored.j0 k true a0_0 a0_1 a0_2 a1_0 a1_1 a1_2 a1_3 a1_4 a1_5 a1_6))) else (swarflaw33_InterpolateMirrored.j0 k true a0_0 a0_1 a0_2 a1_0 a1_1 a1_2 a1_3 a1_4 a1_5 a1_6)) = some r := H
  have A6 := Aside0.mk A60
  clear A60
  by_cases c7 : t317 = true
  ·subst c7
   have H1 : ((swarfref33_Few.f k a0_0 a0_1 a0_2 (([(⟨a1_0, (⟨a1_1, a1_2, a1_3⟩ : S23), (⟨a1_4, a1_5⟩ : S25), a1_6⟩ : S27)] : List (S27))) 1).bind fun t321 => (if t321 = true then ((swarfref33_Valid.f k a0_0 a0_1 a0_2 a1_0 a1_1 a1_2 a1_3 a1_4 a1_5 a1_6).bind fun t322 => (swarflaw33_InterpolateMirrored.j0 k (t322 != 0) a0_0 a0_1 a0_2 a1_0 a1_1 a1_2 a1_3 a1_4 a1_5 a1_6)) else (swarflaw33_InterpolateMirrored.j0 k true a0_0 a0_1 a0_2 a1_0 a1_1 a1_2 a1_3 a1_4 a1_5 a1_6))) = some r := by rw [if_pos rfl] at H; exact H
   clear H
   have H := H1
   clear H1
   obtain ⟨y318, hy318⟩ : ∃ y_ : List (S27), y_ = (([(⟨a1_0, (⟨a1_1, a1_2, a1_3⟩ : S23), (⟨a1_4, a1_5⟩ : S25), a1_6⟩ : S27)] : List (S27))) := ⟨_, rfl⟩
   replace H : ((swarfref33_Few.f k a0_0 a0_1 a0_2 y318 1).bind fun t321 => (if t321 = true then ((swarfref33_Valid.f k a0_0 a0_1 a0_2 a1_0 a1_1 a1_2 a1_3 a1_4 a1_5 a1_6).bind fun t322 => (swarflaw33_InterpolateMirrored.j0 k (t322 != 0) a0_0 a0_1 a0_2 a1_0 a1_1 a1_2 a1_3 a1_4 a1_5 a1_6)) else (swarflaw33_InterpolateMirrored.j0 k true a0_0 a0_1 a0_2 a1_0 a1_1 a1_2 a1_3 a1_4 a1_5 a1_6))) = some r := by first | (rw [hy318]; with_reducible exact H) | (have H2_ := (Option.bind_some _ _).symm.trans H; rw [hy318]; with_reducible exact H2_) | (have H2_ := (Option.bind_some _ _).symm.trans H; with_reducible exact H2_) | with_reducible exact H | (rw [hy318]; exact H) | exact H
   have Ny318 := Aside0.mk hy318
   clear hy318
   replace H := Option.bind_eq_some_iff.mp H
   obtain ⟨t321, A80, H⟩ := H
   replace H : (if t321 = true then ((swarfref33_Valid.f k a0_0 a0_1 a0_2 a1_0 a1_1 a1_2 a1_3 a1_4 a1_5 a1_6).bind fun t322 => (swarflaw33_InterpolateMirrored.j0 k (t322 != 0) a0_0 a0_1 a0_2 a1_0 a1_1 a1_2 a1_3 a1_4 a1_5 a1_6)) else (swarflaw33_InterpolateMirrored.j0 k true a0_0 a0_1 a0_2 a1_0 a1_1 a1_2 a1_3 a1_4 a1_5 a1_6)) = some r := H
   have A8 := Aside0.mk A80
   clear A80
   by_cases c9 : t321 = true
   ·subst c9
    have H1 : ((swarfref33_Valid.f k a0_0 a0_1 a0_2 a1_0 a1_1 a1_2 a1_3 a1_4 a1_5 a1_6).bind fun t322 => (swarflaw33_InterpolateMirrored.j0 k (t322 != 0) a0_0 a0_1 a0_2 a1_0 a1_1 a1_2 a1_3 a1_4 a1_5 a1_6)) = some r := by rw [if_pos rfl] at H; exact H
    clear H
    have H := H1
    clear H1
    replace H := Option.bind_eq_some_iff.mp H
    obtain ⟨t322, A100, H⟩ := H
    replace H : (swarflaw33_InterpolateMirrored.j0 k (t322 != 0) a0_0 a0_1 a0_2 a1_0 a1_1 a1_2 a1_3 a1_4 a1_5 a1_6) = some r := H
    have A10 := Aside0.mk A100
    clear A100
    have H' := Aside0.mk H
    clear H
    go_wp2_with (first | ((with_reducible refine gate_callee (f := 11) rfl ?_); refine goesL_ (some 12) rfl rfl Try.func11 (by kernel_rfl) rfl #[] rfl (by (try simp only [List.map_toArray, List.map_cons, List.map_nil]); first | done | rfl | (simp only [List.length_drop, List.length_take]; rfl)) ?_; (with_reducible refine (swarflaw33_awake.calls k  true _ A6.out).mono ?_); rintro e w11 ⟨rfl, hb⟩; refine ⟨_, rfl, ?_⟩; have n0_ := Aside0.mk (blk_below (g := gb315) (o := .cells #[.int .i64 a0_0, .int .i64 a0_1, .int .i64 a0_2] 23 (0, 0)) (by (with_reducible repeat (first | refine blk_drewN ?_ _ | refine blk_drew ?_ | refine blk_alloc ?_ _)); exact BK315.out) hb); have n1_ := Aside0.mk (blk_below (g := gb316) (o := .cells #[.int .i64 a1_0, .int .i64 a1_1, .int .i64 a1_2, .int .i64 a1_3, .int .i64 a1_4, .int .i64 a1_5, .int .i64 a1_6] 27 (0, 0)) (by (with_reducible repeat (first | refine blk_drewN ?_ _ | refine blk_drew ?_ | refine blk_alloc ?_ _)); exact BK316.out) hb); have n2_ := Aside0.mk (below_step (by repeat (first | (with_reducible first | exact HB.out | apply below_alloc | apply pw_below_drewN | apply below_drew1 | refine below_set ?_ GE315.out | refine below_set ?_ GE316.out) | exact HB.out)) hb); clear BK315; clear BK316; clear HB; have BK315 := n0_; have BK316 := n1_; have HB := n2_; clear n0_ n1_ n2_; (try clear hb); (try clear hb2); (try clear hk); (try clear hi); have hnb12 := NB315_316.out; have hnc12 := NB316_315.out; have hcz13_0 : w11.cell? ⟨gb315, 0, none⟩ = some (.int .i64 a0_0) := (blk_cell BK315.out 0).trans rfl; have hcz13_1 : w11.cell? ⟨gb315, 1, none⟩ = some (.int .i64 a0_1) := (blk_cell BK315.out 1).trans rfl; have hcz13_2 : w11.cell? ⟨gb315, 2, none⟩ = some (.int .i64 a0_2) := (blk_cell BK315.out 2).trans rfl; have hfz13_0 := blk_frozen BK315.out 0; have hfz13_1 := blk_frozen BK315.out 1; have hfz13_2 := blk_frozen BK315.out 2; have hcz14_0 : w11.cell? ⟨gb316, 0, none⟩ = some (.int .i64 a1_0) := (blk_cell BK316.out 0).trans rfl; have hcz14_1 : w11.cell? ⟨gb316, 1, none⟩ = some (.int .i64 a1_1) := (blk_cell BK316.out 1).trans rfl; have hcz14_2 : w11.cell? ⟨gb316, 2, none⟩ = some (.int .i64 a1_2) := (blk_cell BK316.out 2).trans rfl; have hcz14_3 : w11.cell? ⟨gb316, 3, none⟩ = some (.int .i64 a1_3) := (blk_cell BK316.out 3).trans rfl; have hcz14_4 : w11.cell? ⟨gb316, 4, none⟩ = some (.int .i64 a1_4) := (blk_cell BK316.out 4).trans rfl; have hcz14_5 : w11.cell? ⟨gb316, 5, none⟩ = some (.int .i64 a1_5) := (blk_cell BK316.out 5).trans rfl; have hcz14_6 : w11.cell? ⟨gb316, 6, none⟩ = some (.int .i64 a1_6) := (blk_cell BK316.out 6).trans rfl; have hfz14_0 := blk_frozen BK316.out 0; have hfz14_1 := blk_frozen BK316.out 1; have hfz14_2 := blk_frozen BK316.out 2; have hfz14_3 := blk_frozen BK316.out 3; have hfz14_4 := blk_frozen BK316.out 4; have hfz14_5 := blk_frozen BK316.out 5; have hfz14_6 := blk_frozen BK316.out 6) | ((with_reducible refine gate_dst (N := 17) rfl ?_); (try (refine gate_guard (by rfl) ?_; dsimp only)); refine Kd.R_lit k27 _ 27 ?hg (N := 17) ?hd (xs := ([(⟨a1_0, (⟨a1_1, a1_2, a1_3⟩ : S23), (⟨a1_4, a1_5⟩ : S25), a1_6⟩ : S27)] : List (S27))) (inner := [.int .i64 a1_0, .int .i64 a1_1, .int .i64 a1_2, .int .i64 a1_3, .int .i64 a1_4, .int .i64 a1_5, .int .i64 a1_6]) (ok := fun _ => True) (okp := fun _ => True) ?hr ?hp (fun _ hk => hk) trivial (Below.refl _ _) (Nat.le_refl _) (by simp) ?_; (case hd => rfl); (case hg => rfl); (case hr => first | (go_simp; done) | (go_simp; rfl)); (case hp => exact (Reps.c7 (show Kd.M k27 _ _ _ (⟨a1_0, (⟨a1_1, a1_2, a1_3⟩ : S23), (⟨a1_4, a1_5⟩ : S25), a1_6⟩ : S27) [.int .i64 a1_0, .int .i64 a1_1, .int .i64 a1_2, .int .i64 a1_3, .int .i64 a1_4, .int .i64 a1_5, .int .i64 a1_6] from (k27_mkM _ _ _ (⟨a1_0, (⟨a1_1, a1_2, a1_3⟩ : S23), (⟨a1_4, a1_5⟩ : S25), a1_6⟩ : S27) )) (Reps.none _ _))); intro v319 w15 ho16 hb hg_ hnew_; clear hg_ hnew_; (first | rw [← Ny318.out] at ho16 | (simp only [Int.reduceToNat] at ho16; rw [← Ny318.out] at ho16)); have n0_ := Aside0.mk (Kd.R_lower (Kd.R_newB ho16 (g := gb316) (o := .cells #[.int .i64 a1_0, .int .i64 a1_1, .int .i64 a1_2, .int .i64 a1_3, .int .i64 a1_4, .int .i64 a1_5, .int .i64 a1_6] 27 (0, 0)) (by (with_reducible repeat (first | refine blk_drewN ?_ _ | refine blk_drew ?_ | refine blk_alloc ?_ _)); exact BK316.out)) (below_size (by repeat (first | (with_reducible first | exact HB.out | apply below_alloc | apply pw_below_drewN | apply below_drew1 | refine below_set ?_ GE315.out | refine below_set ?_ GE316.out) | exact HB.out)))); have n1_ := Aside0.mk (blk_below (g := gb315) (o := .cells #[.int .i64 a0_0, .int .i64 a0_1, .int .i64 a0_2] 23 (0, 0)) (by (with_reducible repeat (first | refine blk_drewN ?_ _ | refine blk_drew ?_ | refine blk_alloc ?_ _)); exact BK315.out) hb); have n2_ := Aside0.mk (blk_below (g := gb316) (o := .cells #[.int .i64 a1_0, .int .i64 a1_1, .int .i64 a1_2, .int .i64 a1_3, .int .i64 a1_4, .int .i64 a1_5, .int .i64 a1_6] 27 (0, 0)) (by (with_reducible repeat (first | refine blk_drewN ?_ _ | refine blk_drew ?_ | refine blk_alloc ?_ _)); exact BK316.out) hb); have n3_ := Aside0.mk (below_step (by repeat (first | (with_reducible first | exact HB.out | apply below_alloc | apply pw_below_drewN | apply below_drew1 | refine below_set ?_ GE315.out | refine below_set ?_ GE316.out) | exact HB.out)) hb); clear BK315; clear BK316; clear HB; have HO320 := n0_; have BK315 := n1_; have BK316 := n2_; have HB := n3_; clear n0_ n1_ n2_ n3_; clear hb ho16; obtain ⟨Ao17, co17, eo17⟩ := Kd.R_slice HO320.out; subst eo17) | (go_at_call 17; (with_reducible refine (swarfref33_Few.calls k a0_0 a0_1 a0_2 _ _ y318 1 true _ ?side1 ?side2 A8.out).mono ?_); (case side1 => repeat (first | exact (Kd.R_reads' HO320.out).2.2 | (with_reducible refine Kd.C_alloc ?_ _) | (with_reducible refine Kd.C_drewN ?_ _) | (with_reducible refine Kd.C_drew ?_))); (case side2 => exact (Kd.R_reads' HO320.out).2.1); rintro e w18 ⟨rfl, hb⟩; have n0_ := Aside0.mk (Kd.R_below (by (with_reducible repeat (first | apply Kd.R_alloc | apply Kd.R_drewN | apply Kd.R_drew)); exact HO320.out) hb); have n1_ := Aside0.mk (blk_below (g := gb315) (o := .cells #[.int .i64 a0_0, .int .i64 a0_1, .int .i64 a0_2] 23 (0, 0)) (by (with_reducible repeat (first | refine blk_drewN ?_ _ | refine blk_drew ?_ | refine blk_alloc ?_ _)); exact BK315.out) hb); have n2_ := Aside0.mk (blk_below (g := gb316) (o := .cells #[.int .i64 a1_0, .int .i64 a1_1, .int .i64 a1_2, .int .i64 a1_3, .int .i64 a1_4, .int .i64 a1_5, .int .i64 a1_6] 27 (0, 0)) (by (with_reducible repeat (first | refine blk_drewN ?_ _ | refine blk_drew ?_ | refine blk_alloc ?_ _)); exact BK316.out) hb); have n3_ := Aside0.mk (below_step (by repeat (first | (with_reducible first | exact HB.out | apply below_alloc | apply pw_below_drewN | apply below_drew1 | refine below_set ?_ GE315.out | refine below_set ?_ GE316.out) | exact HB.out)) hb); clear HO320; clear BK315; clear BK316; clear HB; have HO320 := n0_; have BK315 := n1_; have BK316 := n2_; have HB := n3_; clear n0_ n1_ n2_ n3_; (try clear hb); (try clear hb2); (try clear hk); (try clear hi); have hcz19_0 : w18.cell? ⟨gb315, 0, none⟩ = some (.int .i64 a0_0) := (blk_cell BK315.out 0).trans rfl; have hcz19_1 : w18.cell? ⟨gb315, 1, none⟩ = some (.int .i64 a0_1) := (blk_cell BK315.out 1).trans rfl; have hcz19_2 : w18.cell? ⟨gb315, 2, none⟩ = some (.int .i64 a0_2) := (blk_cell BK315.out 2).trans rfl; have hfz19_0 := blk_frozen BK315.out 0; have hfz19_1 := blk_frozen BK315.out 1; have hfz19_2 := blk_frozen BK315.out 2; have hcz20_0 : w18.cell? ⟨gb316, 0, none⟩ = some (.int .i64 a1_0) := (blk_cell BK316.out 0).trans rfl; have hcz20_1 : w18.cell? ⟨gb316, 1, none⟩ = some (.int .i64 a1_1) := (blk_cell BK316.out 1).trans rfl; have hcz20_2 : w18.cell? ⟨gb316, 2, none⟩ = some (.int .i64 a1_2) := (blk_cell BK316.out 2).trans rfl; have hcz20_3 : w18.cell? ⟨gb316, 3, none⟩ = some (.int .i64 a1_3) := (blk_cell BK316.out 3).trans rfl; have hcz20_4 : w18.cell? ⟨gb316, 4, none⟩ = some (.int .i64 a1_4) := (blk_cell BK316.out 4).trans rfl; have hcz20_5 : w18.cell? ⟨gb316, 5, none⟩ = some (.int .i64 a1_5) := (blk_cell BK316.out 5).trans rfl; have hcz20_6 : w18.cell? ⟨gb316, 6, none⟩ = some (.int .i64 a1_6) := (blk_cell BK316.out 6).trans rfl; have hfz20_0 := blk_frozen BK316.out 0; have hfz20_1 := blk_frozen BK316.out 1; have hfz20_2 := blk_frozen BK316.out 2; have hfz20_3 := blk_frozen BK316.out 3; have hfz20_4 := blk_frozen BK316.out 4; have hfz20_5 := blk_frozen BK316.out 5; have hfz20_6 := blk_frozen BK316.out 6) | (go_at_call 15; (with_reducible refine (swarfref33_Valid.calls k a0_0 a0_1 a0_2 a1_0 a1_1 a1_2 a1_3 a1_4 a1_5 a1_6 t322 _ A10.out).mono ?_); rintro e w21 ⟨rfl, hb⟩; have n0_ := Aside0.mk (Kd.R_below (by (with_reducible repeat (first | apply Kd.R_alloc | apply Kd.R_drewN | apply Kd.R_drew)); exact HO320.out) hb); have n1_ := Aside0.mk (blk_below (g := gb315) (o := .cells #[.int .i64 a0_0, .int .i64 a0_1, .int .i64 a0_2] 23 (0, 0)) (by (with_reducible repeat (first | refine blk_drewN ?_ _ | refine blk_drew ?_ | refine blk_alloc ?_ _)); exact BK315.out) hb); have n2_ := Aside0.mk (blk_below (g := gb316) (o := .cells #[.int .i64 a1_0, .int .i64 a1_1, .int .i64 a1_2, .int .i64 a1_3, .int .i64 a1_4, .int .i64 a1_5, .int .i64 a1_6] 27 (0, 0)) (by (with_reducible repeat (first | refine blk_drewN ?_ _ | refine blk_drew ?_ | refine blk_alloc ?_ _)); exact BK316.out) hb); have n3_ := Aside0.mk (below_step (by repeat (first | (with_reducible first | exact HB.out | apply below_alloc | apply pw_below_drewN | apply below_drew1 | refine below_set ?_ GE315.out | refine below_set ?_ GE316.out) | exact HB.out)) hb); clear HO320; clear BK315; clear BK316; clear HB; have HO320 := n0_; have BK315 := n1_; have BK316 := n2_; have HB := n3_; clear n0_ n1_ n2_ n3_; (try clear hb); (try clear hb2); (try clear hk); (try clear hi)))
    go_meet
    case rel => exact ⟨_, ((t322 != 0)), (by first | rfl | (simp; done) | (simp [*]; done)), H', ⟨by first | omega | exact Nat.le_refl _⟩, ⟨by (with_reducible repeat (first | refine blk_drewN ?_ _ | refine blk_drew ?_ | refine blk_alloc ?_ _)); exact BK315.out⟩, ⟨by (with_reducible repeat (first | refine blk_drewN ?_ _ | refine blk_drew ?_ | refine blk_alloc ?_ _)); exact BK316.out⟩, ⟨by repeat (first | (with_reducible first | exact HB.out | apply below_alloc | apply pw_below_drewN | apply below_drew1 | refine below_set ?_ GE315.out | refine below_set ?_ GE316.out) | exact HB.out)⟩⟩
   ·replace c9 := Bool.eq_false_iff.mpr c9
    subst c9
    have H1 : (swarflaw33_InterpolateMirrored.j0 k true a0_0 a0_1 a0_2 a1_0 a1_1 a1_2 a1_3 a1_4 a1_5 a1_6) = some r := by rw [if_neg (show ¬ (false = true) by decide)] at H; exact H
    clear H
    have H := H1
    clear H1
    have H' := Aside0.mk H
    clear H
    go_wp2_with (first | ((with_reducible refine gate_callee (f := 11) rfl ?_); refine goesL_ (some 12) rfl rfl Try.func11 (by kernel_rfl) rfl #[] rfl (by (try simp only [List.map_toArray, List.map_cons, List.map_nil]); first | done | rfl | (simp only [List.length_drop, List.length_take]; rfl)) ?_; (with_reducible refine (swarflaw33_awake.calls k  true _ A6.out).mono ?_); rintro e w22 ⟨rfl, hb⟩; refine ⟨_, rfl, ?_⟩; have n0_ := Aside0.mk (blk_below (g := gb315) (o := .cells #[.int .i64 a0_0, .int .i64 a0_1, .int .i64 a0_2] 23 (0, 0)) (by (with_reducible repeat (first | refine blk_drewN ?_ _ | refine blk_drew ?_ | refine blk_alloc ?_ _)); exact BK315.out) hb); have n1_ := Aside0.mk (blk_below (g := gb316) (o := .cells #[.int .i64 a1_0, .int .i64 a1_1, .int .i64 a1_2, .int .i64 a1_3, .int .i64 a1_4, .int .i64 a1_5, .int .i64 a1_6] 27 (0, 0)) (by (with_reducible repeat (first | refine blk_drewN ?_ _ | refine blk_drew ?_ | refine blk_alloc ?_ _)); exact BK316.out) hb); have n2_ := Aside0.mk (below_step (by repeat (first | (with_reducible first | exact HB.out | apply below_alloc | apply pw_below_drewN | apply below_drew1 | refine below_set ?_ GE315.out | refine below_set ?_ GE316.out) | exact HB.out)) hb); clear BK315; clear BK316; clear HB; have BK315 := n0_; have BK316 := n1_; have HB := n2_; clear n0_ n1_ n2_; (try clear hb); (try clear hb2); (try clear hk); (try clear hi); have hnb23 := NB315_316.out; have hnc23 := NB316_315.out; have hcz24_0 : w22.cell? ⟨gb315, 0, none⟩ = some (.int .i64 a0_0) := (blk_cell BK315.out 0).trans rfl; have hcz24_1 : w22.cell? ⟨gb315, 1, none⟩ = some (.int .i64 a0_1) := (blk_cell BK315.out 1).trans rfl; have hcz24_2 : w22.cell? ⟨gb315, 2, none⟩ = some (.int .i64 a0_2) := (blk_cell BK315.out 2).trans rfl; have hfz24_0 := blk_frozen BK315.out 0; have hfz24_1 := blk_frozen BK315.out 1; have hfz24_2 := blk_frozen BK315.out 2; have hcz25_0 : w22.cell? ⟨gb316, 0, none⟩ = some (.int .i64 a1_0) := (blk_cell BK316.out 0).trans rfl; have hcz25_1 : w22.cell? ⟨gb316, 1, none⟩ = some (.int .i64 a1_1) := (blk_cell BK316.out 1).trans rfl; have hcz25_2 : w22.cell? ⟨gb316, 2, none⟩ = some (.int .i64 a1_2) := (blk_cell BK316.out 2).trans rfl; have hcz25_3 : w22.cell? ⟨gb316, 3, none⟩ = some (.int .i64 a1_3) := (blk_cell BK316.out 3).trans rfl; have hcz25_4 : w22.cell? ⟨gb316, 4, none⟩ = some (.int .i64 a1_4) := (blk_cell BK316.out 4).trans rfl; have hcz25_5 : w22.cell? ⟨gb316, 5, none⟩ = some (.int .i64 a1_5) := (blk_cell BK316.out 5).trans rfl; have hcz25_6 : w22.cell? ⟨gb316, 6, none⟩ = some (.int .i64 a1_6) := (blk_cell BK316.out 6).trans rfl; have hfz25_0 := blk_frozen BK316.out 0; have hfz25_1 := blk_frozen BK316.out 1; have hfz25_2 := blk_frozen BK316.out 2; have hfz25_3 := blk_frozen BK316.out 3; have hfz25_4 := blk_frozen BK316.out 4; have hfz25_5 := blk_frozen BK316.out 5; have hfz25_6 := blk_frozen BK316.out 6) | ((with_reducible refine gate_dst (N := 17) rfl ?_); (try (refine gate_guard (by rfl) ?_; dsimp only)); refine Kd.R_lit k27 _ 27 ?hg (N := 17) ?hd (xs := ([(⟨a1_0, (⟨a1_1, a1_2, a1_3⟩ : S23), (⟨a1_4, a1_5⟩ : S25), a1_6⟩ : S27)] : List (S27))) (inner := [.int .i64 a1_0, .int .i64 a1_1, .int .i64 a1_2, .int .i64 a1_3, .int .i64 a1_4, .int .i64 a1_5, .int .i64 a1_6]) (ok := fun _ => True) (okp := fun _ => True) ?hr ?hp (fun _ hk => hk) trivial (Below.refl _ _) (Nat.le_refl _) (by simp) ?_; (case hd => rfl); (case hg => rfl); (case hr => first | (go_simp; done) | (go_simp; rfl)); (case hp => exact (Reps.c7 (show Kd.M k27 _ _ _ (⟨a1_0, (⟨a1_1, a1_2, a1_3⟩ : S23), (⟨a1_4, a1_5⟩ : S25), a1_6⟩ : S27) [.int .i64 a1_0, .int .i64 a1_1, .int .i64 a1_2, .int .i64 a1_3, .int .i64 a1_4, .int .i64 a1_5, .int .i64 a1_6] from (k27_mkM _ _ _ (⟨a1_0, (⟨a1_1, a1_2, a1_3⟩ : S23), (⟨a1_4, a1_5⟩ : S25), a1_6⟩ : S27) )) (Reps.none _ _))); intro v319 w26 ho27 hb hg_ hnew_; clear hg_ hnew_; (first | rw [← Ny318.out] at ho27 | (simp only [Int.reduceToNat] at ho27; rw [← Ny318.out] at ho27)); have n0_ := Aside0.mk (Kd.R_lower (Kd.R_newB ho27 (g := gb316) (o := .cells #[.int .i64 a1_0, .int .i64 a1_1, .int .i64 a1_2, .int .i64 a1_3, .int .i64 a1_4, .int .i64 a1_5, .int .i64 a1_6] 27 (0, 0)) (by (with_reducible repeat (first | refine blk_drewN ?_ _ | refine blk_drew ?_ | refine blk_alloc ?_ _)); exact BK316.out)) (below_size (by repeat (first | (with_reducible first | exact HB.out | apply below_alloc | apply pw_below_drewN | apply below_drew1 | refine below_set ?_ GE315.out | refine below_set ?_ GE316.out) | exact HB.out)))); have n1_ := Aside0.mk (blk_below (g := gb315) (o := .cells #[.int .i64 a0_0, .int .i64 a0_1, .int .i64 a0_2] 23 (0, 0)) (by (with_reducible repeat (first | refine blk_drewN ?_ _ | refine blk_drew ?_ | refine blk_alloc ?_ _)); exact BK315.out) hb); have n2_ := Aside0.mk (blk_below (g := gb316) (o := .cells #[.int .i64 a1_0, .int .i64 a1_1, .int .i64 a1_2, .int .i64 a1_3, .int .i64 a1_4, .int .i64 a1_5, .int .i64 a1_6] 27 (0, 0)) (by (with_reducible repeat (first | refine blk_drewN ?_ _ | refine blk_drew ?_ | refine blk_alloc ?_ _)); exact BK316.out) hb); have n3_ := Aside0.mk (below_step (by repeat (first | (with_reducible first | exact HB.out | apply below_alloc | apply pw_below_drewN | apply below_drew1 | refine below_set ?_ GE315.out | refine below_set ?_ GE316.out) | exact HB.out)) hb); clear BK315; clear BK316; clear HB; have HO320 := n0_; have BK315 := n1_; have BK316 := n2_; have HB := n3_; clear n0_ n1_ n2_ n3_; clear hb ho27; obtain ⟨Ao28, co28, eo28⟩ := Kd.R_slice HO320.out; subst eo28) | (go_at_call 17; (with_reducible refine (swarfref33_Few.calls k a0_0 a0_1 a0_2 _ _ y318 1 false _ ?side1 ?side2 A8.out).mono ?_); (case side1 => repeat (first | exact (Kd.R_reads' HO320.out).2.2 | (with_reducible refine Kd.C_alloc ?_ _) | (with_reducible refine Kd.C_drewN ?_ _) | (with_reducible refine Kd.C_drew ?_))); (case side2 => exact (Kd.R_reads' HO320.out).2.1); rintro e w29 ⟨rfl, hb⟩; have n0_ := Aside0.mk (Kd.R_below (by (with_reducible repeat (first | apply Kd.R_alloc | apply Kd.R_drewN | apply Kd.R_drew)); exact HO320.out) hb); have n1_ := Aside0.mk (blk_below (g := gb315) (o := .cells #[.int .i64 a0_0, .int .i64 a0_1, .int .i64 a0_2] 23 (0, 0)) (by (with_reducible repeat (first | refine blk_drewN ?_ _ | refine blk_drew ?_ | refine blk_alloc ?_ _)); exact BK315.out) hb); have n2_ := Aside0.mk (blk_below (g := gb316) (o := .cells #[.int .i64 a1_0, .int .i64 a1_1, .int .i64 a1_2, .int .i64 a1_3, .int .i64 a1_4, .int .i64 a1_5, .int .i64 a1_6] 27 (0, 0)) (by (with_reducible repeat (first | refine blk_drewN ?_ _ | refine blk_drew ?_ | refine blk_alloc ?_ _)); exact BK316.out) hb); have n3_ := Aside0.mk (below_step (by repeat (first | (with_reducible first | exact HB.out | apply below_alloc | apply pw_below_drewN | apply below_drew1 | refine below_set ?_ GE315.out | refine below_set ?_ GE316.out) | exact HB.out)) hb); clear HO320; clear BK315; clear BK316; clear HB; have HO320 := n0_; have BK315 := n1_; have BK316 := n2_; have HB := n3_; clear n0_ n1_ n2_ n3_; (try clear hb); (try clear hb2); (try clear hk); (try clear hi)))
    go_meet
    case rel => exact ⟨_, (true), (by first | rfl | (simp; done) | (simp [*]; done)), H', ⟨by first | omega | exact Nat.le_refl _⟩, ⟨by (with_reducible repeat (first | refine blk_drewN ?_ _ | refine blk_drew ?_ | refine blk_alloc ?_ _)); exact BK315.out⟩, ⟨by (with_reducible repeat (first | refine blk_drewN ?_ _ | refine blk_drew ?_ | refine blk_alloc ?_ _)); exact BK316.out⟩, ⟨by repeat (first | (with_reducible first | exact HB.out | apply below_alloc | apply pw_below_drewN | apply below_drew1 | refine below_set ?_ GE315.out | refine below_set ?_ GE316.out) | exact HB.out)⟩⟩
  ·replace c7 := Bool.eq_false_iff.mpr c7
   subst c7
   have H1 : (swarflaw33_InterpolateMirrored.j0 k true a0_0 a0_1 a0_2 a1_0 a1_1 a1_2 a1_3 a1_4 a1_5 a1_6) = some r := by rw [if_neg (show ¬ (false = true) by decide)] at H; exact H
   clear H
   have H := H1
   clear H1
   have H' := Aside0.mk H
   clear H
   go_wp2_with (first | ((with_reducible refine gate_callee (f := 11) rfl ?_); refine goesL_ (some 12) rfl rfl Try.func11 (by kernel_rfl) rfl #[] rfl (by (try simp only [List.map_toArray, List.map_cons, List.map_nil]); first | done | rfl | (simp only [List.length_drop, List.length_take]; rfl)) ?_; (with_reducible refine (swarflaw33_awake.calls k  false _ A6.out).mono ?_); rintro e w30 ⟨rfl, hb⟩; refine ⟨_, rfl, ?_⟩; have n0_ := Aside0.mk (blk_below (g := gb315) (o := .cells #[.int .i64 a0_0, .int .i64 a0_1, .int .i64 a0_2] 23 (0, 0)) (by (with_reducible repeat (first | refine blk_drewN ?_ _ | refine blk_drew ?_ | refine blk_alloc ?_ _)); exact BK315.out) hb); have n1_ := Aside0.mk (blk_below (g := gb316) (o := .cells #[.int .i64 a1_0, .int .i64 a1_1, .int .i64 a1_2, .int .i64 a1_3, .int .i64 a1_4, .int .i64 a1_5, .int .i64 a1_6] 27 (0, 0)) (by (with_reducible repeat (first | refine blk_drewN ?_ _ | refine blk_drew ?_ | refine blk_alloc ?_ _)); exact BK316.out) hb); have n2_ := Aside0.mk (below_step (by repeat (first | (with_reducible first | exact HB.out | apply below_alloc | apply pw_below_drewN | apply below_drew1 | refine below_set ?_ GE315.out | refine below_set ?_ GE316.out) | exact HB.out)) hb); clear BK315; clear BK316; clear HB; have BK315 := n0_; have BK316 := n1_; have HB := n2_; clear n0_ n1_ n2_; (try clear hb); (try clear hb2); (try clear hk); (try clear hi)))
   go_meet
   case rel => exact ⟨_, (true), (by first | rfl | (simp; done) | (simp [*]; done)), H', ⟨by first | omega | exact Nat.le_refl _⟩, ⟨by (with_reducible repeat (first | refine blk_drewN ?_ _ | refine blk_drew ?_ | refine blk_alloc ?_ _)); exact BK315.out⟩, ⟨by (with_reducible repeat (first | refine blk_drewN ?_ _ | refine blk_drew ?_ | refine blk_alloc ?_ _)); exact BK316.out⟩, ⟨by repeat (first | (with_reducible first | exact HB.out | apply below_alloc | apply pw_below_drewN | apply below_drew1 | refine below_set ?_ GE315.out | refine below_set ?_ GE316.out) | exact HB.out)⟩⟩
 case rest =>
  clear HC3
  try clear c1
  try clear c2
  try clear p2
  try clear c7
  try clear c8
  try clear c9
  try clear c11
  try clear c12
  try clear c23
  try clear hcz13_0
  try clear hcz13_1
  try clear hcz13_2
  try clear hcz14_0
  try clear hcz14_1
  try clear hcz14_2
  try clear hcz14_3
  try clear hcz14_4
  try clear hcz14_5
  try clear hcz14_6
  try clear hcz19_0
  try clear hcz19_1
  try clear hcz19_2
  try clear hcz20_0
  try clear hcz20_1
  try clear hcz20_2
  try clear hcz20_3
  try clear hcz20_4
  try clear hcz20_5
  try clear hcz20_6
  try clear hcz24_0
  try clear hcz24_1
  try clear hcz24_2
  try clear hcz25_0
  try clear hcz25_1
  try clear hcz25_2
  try clear hcz25_3
  try clear hcz25_4
  try clear hcz25_5
  try clear hcz25_6
  try clear hfz13_0
  try clear hfz13_1
  try clear hfz13_2
  try clear hfz14_0
  try clear hfz14_1
  try clear hfz14_2
  try clear hfz14_3
  try clear hfz14_4
  try clear hfz14_5
  try clear hfz14_6
  try clear hfz19_0
  try clear hfz19_1
  try clear hfz19_2
  try clear hfz20_0
  try clear hfz20_1
  try clear hfz20_2
  try clear hfz20_3
  try clear hfz20_4
  try clear hfz20_5
  try clear hfz20_6
  try clear hfz24_0
  try clear hfz24_1
  try clear hfz24_2
  try clear hfz25_0
  try clear hfz25_1
  try clear hfz25_2
  try clear hfz25_3
  try clear hfz25_4
  try clear hfz25_5
  try clear hfz25_6
  obtain ⟨kq, x26_2, rfl, HA, HJ2, BK315, BK316, HB⟩ := hcut
  cases kq with
  | zero => exact absurd HA.out (by simp [swarflaw33_InterpolateMirrored.j0])
  | succ kj2 =>
   have H := HA.out
   clear HA
   simp only [swarflaw33_InterpolateMirrored.j0] at H
   by_cases c31 : x26_2 = true
   ·subst c31
    have H1 : ((swarflaw33_awake.f kj2).bind fun t323 => (some t323)) = some r := by rw [if_pos rfl] at H; exact H
    clear H
    have H := H1
    clear H1
    replace H := Option.bind_eq_some_iff.mp H
    obtain ⟨t323, A320, H⟩ := H
    replace H : (some t323) = some r := H
    have A32 := Aside0.mk A320
    clear A320
    obtain rfl := Option.some.inj H
    go_wp2_with (first | ((with_reducible refine gate_callee (f := 11) rfl ?_); refine goesL_ (some 27) rfl rfl Try.func11 (by kernel_rfl) rfl #[] rfl (by (try simp only [List.map_toArray, List.map_cons, List.map_nil]); first | done | rfl | (simp only [List.length_drop, List.length_take]; rfl)) ?_; (with_reducible refine (swarflaw33_awake.calls kj2  t323 _ A32.out).mono ?_); rintro e w33 ⟨rfl, hb⟩; refine ⟨_, rfl, ?_⟩; have n0_ := Aside0.mk (blk_below (g := gb315) (o := .cells #[.int .i64 a0_0, .int .i64 a0_1, .int .i64 a0_2] 23 (0, 0)) (by (with_reducible repeat (first | refine blk_drewN ?_ _ | refine blk_drew ?_ | refine blk_alloc ?_ _)); exact BK315.out) hb); have n1_ := Aside0.mk (blk_below (g := gb316) (o := .cells #[.int .i64 a1_0, .int .i64 a1_1, .int .i64 a1_2, .int .i64 a1_3, .int .i64 a1_4, .int .i64 a1_5, .int .i64 a1_6] 27 (0, 0)) (by (with_reducible repeat (first | refine blk_drewN ?_ _ | refine blk_drew ?_ | refine blk_alloc ?_ _)); exact BK316.out) hb); have n2_ := Aside0.mk (below_step (by repeat (first | (with_reducible first | exact HB.out | apply below_alloc | apply pw_below_drewN | apply below_drew1 | refine below_set ?_ GE315.out | refine below_set ?_ GE316.out) | exact HB.out)) hb); clear BK315; clear BK316; clear HB; have BK315 := n0_; have BK316 := n1_; have HB := n2_; clear n0_ n1_ n2_; (try clear hb); (try clear hb2); (try clear hk); (try clear hi)))
    go_ret
    exact ⟨by first | rfl | (simp [errW_none, errW_some] <;> rfl) | (simp [*, errW_none, errW_some] <;> rfl), by repeat (first | (with_reducible first | exact HB.out | apply below_alloc | apply pw_below_drewN | apply below_drew1 | refine below_set ?_ GE315.out | refine below_set ?_ GE316.out) | exact HB.out)⟩
   ·replace c31 := Bool.eq_false_iff.mpr c31
    subst c31
    have H1 : (if a1_0 = 3 then (swarflaw33_InterpolateMirrored.j1 kj2 a0_0 a0_1 a0_2 a1_0 a1_1 a1_2 a1_3 a1_4 a1_5 a1_6 a0_0 (wrap64 (-a0_1)) a0_2 4 a1_1 (wrap64 (-a1_2)) a1_3 a1_4 (wrap64 (-a1_5)) a1_6) else (if a1_0 = 4 then (swarflaw33_InterpolateMirrored.j1 kj2 a0_0 a0_1 a0_2 a1_0 a1_1 a1_2 a1_3 a1_4 a1_5 a1_6 a0_0 (wrap64 (-a0_1)) a0_2 3 a1_1 (wrap64 (-a1_2)) a1_3 a1_4 (wrap64 (-a1_5)) a1_6) else (some true))) = some r := by rw [if_neg (show ¬ (false = true) by decide)] at H; exact H
    clear H
    have H := H1
    clear H1
    have HC34 := Aside0.mk H
    clear H
    try go_wp2
    have n0_ := Aside0.mk (blk_drew BK315.out)
    have n1_ := Aside0.mk (blk_drew BK316.out)
    have n2_ := Aside0.mk (below_drew1 HB.out)
    clear BK315
    clear BK316
    clear HB
    have BK315 := n0_
    have BK316 := n1_
    have HB := n2_
    clear n0_ n1_ n2_
    refine start_ (n := 6) (S := fun w' => w'.cell? ⟨gb315, 0, none⟩ = some (.int .i64 a0_0) ∧ w'.cell? ⟨gb315, 1, none⟩ = some (.int .i64 a0_1) ∧ w'.cell? ⟨gb315, 2, none⟩ = some (.int .i64 a0_2) ∧ w'.cell? ⟨gb316, 0, none⟩ = some (.int .i64 a1_0) ∧ w'.cell? ⟨gb316, 1, none⟩ = some (.int .i64 a1_1) ∧ w'.cell? ⟨gb316, 2, none⟩ = some (.int .i64 a1_2) ∧ w'.cell? ⟨gb316, 3, none⟩ = some (.int .i64 a1_3) ∧ w'.cell? ⟨gb316, 4, none⟩ = some (.int .i64 a1_4) ∧ w'.cell? ⟨gb316, 5, none⟩ = some (.int .i64 a1_5) ∧ w'.cell? ⟨gb316, 6, none⟩ = some (.int .i64 a1_6)) (ds := []) #[false, false, false, false, false, false] (by kernel_rfl) rfl rfl ⟨(blk_cell BK315.out 0).trans rfl, (blk_cell BK315.out 1).trans rfl, (blk_cell BK315.out 2).trans rfl, (blk_cell BK316.out 0).trans rfl, (blk_cell BK316.out 1).trans rfl, (blk_cell BK316.out 2).trans rfl, (blk_cell BK316.out 3).trans rfl, (blk_cell BK316.out 4).trans rfl, (blk_cell BK316.out 5).trans rfl, (blk_cell BK316.out 6).trans rfl⟩ (fun hHeld => ?_)
    generalize wc.drew = w35 at BK315 BK316 HB hHeld ⊢
    refine take_ (i := 0) (N := some 28) (v := ?_) (a' := ?_) #[true, false, false, false, false, false] rfl rfl (by kernel_rfl) (fun _ _ _ h => h) (Or.inl ⟨by rfl, ?_⟩) hHeld ?_ ?_
    rotate_left
    ·rintro w' ⟨s0, s1, s2, s3, s4, s5, s6, s7, s8, s9⟩
     go_simp
     with_reducible rfl
    rotate_left
    ·simp only [Act.put, List.setIfInBounds_toArray, List.set_cons_zero, List.set_cons_succ, i64_w, i32_w]
     rfl
    refine take_ (i := 1) (N := some 29) (v := ?_) (a' := ?_) #[true, true, false, false, false, false] rfl rfl (by kernel_rfl) (fun _ _ _ h => h) (Or.inl ⟨by rfl, ?_⟩) hHeld ?_ ?_
    rotate_left
    ·rintro w' ⟨s0, s1, s2, s3, s4, s5, s6, s7, s8, s9⟩
     go_simp
     with_reducible rfl
    rotate_left
    ·simp only [Act.put, List.setIfInBounds_toArray, List.set_cons_zero, List.set_cons_succ, i64_w, i32_w]
     rfl
    refine join_ (σ := Nat × Nat) 2 #[true, true, true, true, false, false] (fun s_ => [(5, .pointer (some ⟨s_.1, 0, none⟩)), (6, .pointer (some ⟨s_.2, 0, none⟩))]) (fun s_ w' => (w'.cell? ⟨gb315, 0, none⟩ = some (.int .i64 a0_0) ∧ w'.cell? ⟨gb315, 1, none⟩ = some (.int .i64 a0_1) ∧ w'.cell? ⟨gb315, 2, none⟩ = some (.int .i64 a0_2) ∧ w'.cell? ⟨gb316, 0, none⟩ = some (.int .i64 a1_0) ∧ w'.cell? ⟨gb316, 1, none⟩ = some (.int .i64 a1_1) ∧ w'.cell? ⟨gb316, 2, none⟩ = some (.int .i64 a1_2) ∧ w'.cell? ⟨gb316, 3, none⟩ = some (.int .i64 a1_3) ∧ w'.cell? ⟨gb316, 4, none⟩ = some (.int .i64 a1_4) ∧ w'.cell? ⟨gb316, 5, none⟩ = some (.int .i64 a1_5) ∧ w'.cell? ⟨gb316, 6, none⟩ = some (.int .i64 a1_6)) ∧ (w'.heap[gb315]? = some (.cells #[.int .i64 a0_0, .int .i64 a0_1, .int .i64 a0_2] 23 (0, 0))) ∧ (w'.heap[gb316]? = some (.cells #[.int .i64 a1_0, .int .i64 a1_1, .int .i64 a1_2, .int .i64 a1_3, .int .i64 a1_4, .int .i64 a1_5, .int .i64 a1_6] 27 (0, 0))) ∧ (w'.heap[s_.1]? = some (.cells #[.int .i64 0, .int .i64 0, .int .i64 0] 23 (0, 0))) ∧ (w'.heap[s_.2]? = some (.cells #[.int .i64 0, .int .i64 0, .int .i64 0, .int .i64 0, .int .i64 0, .int .i64 0, .int .i64 0] 27 (0, 0))) ∧ (w.heap.size ≤ s_.1) ∧ (w.heap.size ≤ s_.1) ∧ (gb315 ≠ s_.1) ∧ (s_.1 ≠ gb315) ∧ (gb316 ≠ s_.1) ∧ (s_.1 ≠ gb316) ∧ (s_.2 ≠ s_.1) ∧ (s_.1 ≠ s_.2) ∧ (w.heap.size ≤ s_.2) ∧ (w.heap.size ≤ s_.2) ∧ (gb315 ≠ s_.2) ∧ (s_.2 ≠ gb315) ∧ (gb316 ≠ s_.2) ∧ (s_.2 ≠ gb316) ∧ (Below w.heap.size w w')) ?_ ?_
    rotate_left
    ·intro hCont
     refine two_ (i := 2) (j := 3) (Ni := some 5) (Nj := some 6) #[true, true, true, false, false, false] #[true, true, false, true, false, false] rfl rfl rfl rfl (by kernel_rfl) (by decide) (by decide) (fun K hK => ?_) (fun K hK => ?_)
     ·skip
      refine box_step ?hg (N := 5) ?hd (cs := #[.int .i64 0, .int .i64 0, .int .i64 0]) (t := 23) ?hr ?_; (case hd => rfl); (case hg => rfl); (case hr => first | (go_simp; done) | (go_simp; rfl))
      intro gb324 hg w36 hbox hb
      have n0_ := Aside0.mk (blk_below (g := gb315) (o := .cells #[.int .i64 a0_0, .int .i64 a0_1, .int .i64 a0_2] 23 (0, 0)) (by (with_reducible repeat (first | refine blk_drewN ?_ _ | refine blk_drew ?_ | refine blk_alloc ?_ _)); exact BK315.out) hb)
      have n1_ := Aside0.mk (blk_below (g := gb316) (o := .cells #[.int .i64 a1_0, .int .i64 a1_1, .int .i64 a1_2, .int .i64 a1_3, .int .i64 a1_4, .int .i64 a1_5, .int .i64 a1_6] 27 (0, 0)) (by (with_reducible repeat (first | refine blk_drewN ?_ _ | refine blk_drew ?_ | refine blk_alloc ?_ _)); exact BK316.out) hb)
      have n2_ := Aside0.mk (below_step (by repeat (first | (with_reducible first | exact HB.out | apply below_alloc | apply pw_below_drewN | apply below_drew1 | refine below_set ?_ GE315.out | refine below_set ?_ GE316.out) | exact HB.out)) hb)
      have n3_ := Aside0.mk (hbox)
      have n4_ := Aside0.mk ((by rw [hg]; exact (below_size (by repeat (first | (with_reducible first | exact HB.out | apply below_alloc | apply pw_below_drewN | apply below_drew1 | refine below_set ?_ GE315.out | refine below_set ?_ GE316.out) | exact HB.out))) : w.heap.size ≤ gb324))
      have n5_ := Aside0.mk ((by rw [hg]; exact (below_size (by repeat (first | (with_reducible first | exact HB.out | apply below_alloc | apply pw_below_drewN | apply below_drew1 | refine below_set ?_ GE315.out | refine below_set ?_ GE316.out) | exact HB.out))) : w.heap.size ≤ gb324))
      have n6_ := Aside0.mk ((by rw [hg]; exact Nat.ne_of_lt (blk_lt (g := gb315) (o := .cells #[.int .i64 a0_0, .int .i64 a0_1, .int .i64 a0_2] 23 (0, 0)) (by (with_reducible repeat (first | refine blk_drewN ?_ _ | refine blk_drew ?_ | refine blk_alloc ?_ _)); exact BK315.out)) : gb315 ≠ gb324))
      have n7_ := Aside0.mk ((by rw [hg]; exact Nat.ne_of_gt (blk_lt (g := gb315) (o := .cells #[.int .i64 a0_0, .int .i64 a0_1, .int .i64 a0_2] 23 (0, 0)) (by (with_reducible repeat (first | refine blk_drewN ?_ _ | refine blk_drew ?_ | refine blk_alloc ?_ _)); exact BK315.out)) : gb324 ≠ gb315))
      have n8_ := Aside0.mk ((by rw [hg]; exact Nat.ne_of_lt (blk_lt (g := gb316) (o := .cells #[.int .i64 a1_0, .int .i64 a1_1, .int .i64 a1_2, .int .i64 a1_3, .int .i64 a1_4, .int .i64 a1_5, .int .i64 a1_6] 27 (0, 0)) (by (with_reducible repeat (first | refine blk_drewN ?_ _ | refine blk_drew ?_ | refine blk_alloc ?_ _)); exact BK316.out)) : gb316 ≠ gb324))
      have n9_ := Aside0.mk ((by rw [hg]; exact Nat.ne_of_gt (blk_lt (g := gb316) (o := .cells #[.int .i64 a1_0, .int .i64 a1_1, .int .i64 a1_2, .int .i64 a1_3, .int .i64 a1_4, .int .i64 a1_5, .int .i64 a1_6] 27 (0, 0)) (by (with_reducible repeat (first | refine blk_drewN ?_ _ | refine blk_drew ?_ | refine blk_alloc ?_ _)); exact BK316.out)) : gb324 ≠ gb316))
      clear BK315
      clear BK316
      clear HB
      have BK315 := n0_
      have BK316 := n1_
      have HB := n2_
      have BK324 := n3_
      have GW324 := n4_
      have GE324 := n5_
      have NB315_324 := n6_
      have NB324_315 := n7_
      have NB316_324 := n8_
      have NB324_316 := n9_
      clear n0_ n1_ n2_ n3_ n4_ n5_ n6_ n7_ n8_ n9_
      clear hb hbox hg
      refine hK.out _ _ ⟨(blk_cell BK315.out 0).trans rfl, (blk_cell BK315.out 1).trans rfl, (blk_cell BK315.out 2).trans rfl, (blk_cell BK316.out 0).trans rfl, (blk_cell BK316.out 1).trans rfl, (blk_cell BK316.out 2).trans rfl, (blk_cell BK316.out 3).trans rfl, (blk_cell BK316.out 4).trans rfl, (blk_cell BK316.out 5).trans rfl, (blk_cell BK316.out 6).trans rfl⟩ (fun hHeld => ?_)
      clear hK K
      refine norm_ (a' := ?_) ?_ ?_
      rotate_left
      ·show Act.put _ (some 5) _ = _
       simp only [Act.put, List.setIfInBounds_toArray, List.set_cons_zero, List.set_cons_succ, i64_w, i32_w]
       rfl
      refine one_ (i := 3) (N := some 6) #[true, true, true, true, false, false] rfl rfl (by kernel_rfl) (by decide) (fun K hK => ?_)
      refine box_step ?hg (N := 6) ?hd (cs := #[.int .i64 0, .int .i64 0, .int .i64 0, .int .i64 0, .int .i64 0, .int .i64 0, .int .i64 0]) (t := 27) ?hr ?_; (case hd => rfl); (case hg => rfl); (case hr => first | (go_simp; done) | (go_simp; rfl))
      intro gb325 hg w37 hbox hb
      have n0_ := Aside0.mk (blk_below (g := gb315) (o := .cells #[.int .i64 a0_0, .int .i64 a0_1, .int .i64 a0_2] 23 (0, 0)) (by (with_reducible repeat (first | refine blk_drewN ?_ _ | refine blk_drew ?_ | refine blk_alloc ?_ _)); exact BK315.out) hb)
      have n1_ := Aside0.mk (blk_below (g := gb316) (o := .cells #[.int .i64 a1_0, .int .i64 a1_1, .int .i64 a1_2, .int .i64 a1_3, .int .i64 a1_4, .int .i64 a1_5, .int .i64 a1_6] 27 (0, 0)) (by (with_reducible repeat (first | refine blk_drewN ?_ _ | refine blk_drew ?_ | refine blk_alloc ?_ _)); exact BK316.out) hb)
      have n2_ := Aside0.mk (blk_below (g := gb324) (o := .cells #[.int .i64 0, .int .i64 0, .int .i64 0] 23 (0, 0)) (by (with_reducible repeat (first | refine blk_drewN ?_ _ | refine blk_drew ?_ | refine blk_alloc ?_ _)); exact BK324.out) hb)
      have n3_ := Aside0.mk (below_step (by repeat (first | (with_reducible first | exact HB.out | apply below_alloc | apply pw_below_drewN | apply below_drew1 | refine below_set ?_ GE315.out | refine below_set ?_ GE316.out | refine below_set ?_ GE324.out) | exact HB.out)) hb)
      have n4_ := Aside0.mk (hbox)
      have n5_ := Aside0.mk ((by rw [hg]; exact (below_size (by repeat (first | (with_reducible first | exact HB.out | apply below_alloc | apply pw_below_drewN | apply below_drew1 | refine below_set ?_ GE315.out | refine below_set ?_ GE316.out | refine below_set ?_ GE324.out) | exact HB.out))) : w.heap.size ≤ gb325))
      have n6_ := Aside0.mk ((by rw [hg]; exact (below_size (by repeat (first | (with_reducible first | exact HB.out | apply below_alloc | apply pw_below_drewN | apply below_drew1 | refine below_set ?_ GE315.out | refine below_set ?_ GE316.out | refine below_set ?_ GE324.out) | exact HB.out))) : w.heap.size ≤ gb325))
      have n7_ := Aside0.mk ((by rw [hg]; exact Nat.ne_of_lt (blk_lt (g := gb315) (o := .cells #[.int .i64 a0_0, .int .i64 a0_1, .int .i64 a0_2] 23 (0, 0)) (by (with_reducible repeat (first | refine blk_drewN ?_ _ | refine blk_drew ?_ | refine blk_alloc ?_ _)); exact BK315.out)) : gb315 ≠ gb325))
      have n8_ := Aside0.mk ((by rw [hg]; exact Nat.ne_of_gt (blk_lt (g := gb315) (o := .cells #[.int .i64 a0_0, .int .i64 a0_1, .int .i64 a0_2] 23 (0, 0)) (by (with_reducible repeat (first | refine blk_drewN ?_ _ | refine blk_drew ?_ | refine blk_alloc ?_ _)); exact BK315.out)) : gb325 ≠ gb315))
      have n9_ := Aside0.mk ((by rw [hg]; exact Nat.ne_of_lt (blk_lt (g := gb316) (o := .cells #[.int .i64 a1_0, .int .i64 a1_1, .int .i64 a1_2, .int .i64 a1_3, .int .i64 a1_4, .int .i64 a1_5, .int .i64 a1_6] 27 (0, 0)) (by (with_reducible repeat (first | refine blk_drewN ?_ _ | refine blk_drew ?_ | refine blk_alloc ?_ _)); exact BK316.out)) : gb316 ≠ gb325))
      have n10_ := Aside0.mk ((by rw [hg]; exact Nat.ne_of_gt (blk_lt (g := gb316) (o := .cells #[.int .i64 a1_0, .int .i64 a1_1, .int .i64 a1_2, .int .i64 a1_3, .int .i64 a1_4, .int .i64 a1_5, .int .i64 a1_6] 27 (0, 0)) (by (with_reducible repeat (first | refine blk_drewN ?_ _ | refine blk_drew ?_ | refine blk_alloc ?_ _)); exact BK316.out)) : gb325 ≠ gb316))
      have n11_ := Aside0.mk ((by rw [hg]; exact Nat.ne_of_lt (blk_lt (g := gb324) (o := .cells #[.int .i64 0, .int .i64 0, .int .i64 0] 23 (0, 0)) (by (with_reducible repeat (first | refine blk_drewN ?_ _ | refine blk_drew ?_ | refine blk_alloc ?_ _)); exact BK324.out)) : gb324 ≠ gb325))
      have n12_ := Aside0.mk ((by rw [hg]; exact Nat.ne_of_gt (blk_lt (g := gb324) (o := .cells #[.int .i64 0, .int .i64 0, .int .i64 0] 23 (0, 0)) (by (with_reducible repeat (first | refine blk_drewN ?_ _ | refine blk_drew ?_ | refine blk_alloc ?_ _)); exact BK324.out)) : gb325 ≠ gb324))
      clear BK315
      clear BK316
      clear BK324
      clear HB
      have BK315 := n0_
      have BK316 := n1_
      have BK324 := n2_
      have HB := n3_
      have BK325 := n4_
      have GW325 := n5_
      have GE325 := n6_
      have NB315_325 := n7_
      have NB325_315 := n8_
      have NB316_325 := n9_
      have NB325_316 := n10_
      have NB324_325 := n11_
      have NB325_324 := n12_
      clear n0_ n1_ n2_ n3_ n4_ n5_ n6_ n7_ n8_ n9_ n10_ n11_ n12_
      clear hb hbox hg
      refine hK.out _ _ ⟨(blk_cell BK315.out 0).trans rfl, (blk_cell BK315.out 1).trans rfl, (blk_cell BK315.out 2).trans rfl, (blk_cell BK316.out 0).trans rfl, (blk_cell BK316.out 1).trans rfl, (blk_cell BK316.out 2).trans rfl, (blk_cell BK316.out 3).trans rfl, (blk_cell BK316.out 4).trans rfl, (blk_cell BK316.out 5).trans rfl, (blk_cell BK316.out 6).trans rfl⟩ (fun hHeld => ?_)
      clear hK K
      refine norm_ (a' := ?_) ?_ ?_
      rotate_left
      ·show Act.put _ (some 6) _ = _
       simp only [Act.put, List.setIfInBounds_toArray, List.set_cons_zero, List.set_cons_succ, i64_w, i32_w]
       rfl
      exact norm_ (by simp only [putAll, Act.put, List.setIfInBounds_toArray, List.set_cons_zero, List.set_cons_succ]) (hCont (gb324, gb325) _ ⟨hHeld, (by (with_reducible repeat (first | refine blk_drewN ?_ _ | refine blk_drew ?_ | refine blk_alloc ?_ _)); exact BK315.out), (by (with_reducible repeat (first | refine blk_drewN ?_ _ | refine blk_drew ?_ | refine blk_alloc ?_ _)); exact BK316.out), (by (with_reducible repeat (first | refine blk_drewN ?_ _ | refine blk_drew ?_ | refine blk_alloc ?_ _)); exact BK324.out), (by (with_reducible repeat (first | refine blk_drewN ?_ _ | refine blk_drew ?_ | refine blk_alloc ?_ _)); exact BK325.out), GW324.out, GE324.out, NB315_324.out, NB324_315.out, NB316_324.out, NB324_316.out, NB325_324.out, NB324_325.out, GW325.out, GE325.out, NB315_325.out, NB325_315.out, NB316_325.out, NB325_316.out, (by repeat (first | (with_reducible first | exact HB.out | apply below_alloc | apply pw_below_drewN | apply below_drew1 | refine below_set ?_ GE315.out | refine below_set ?_ GE316.out | refine below_set ?_ GE324.out | refine below_set ?_ GE325.out) | exact HB.out))⟩)
     ·skip
      refine box_step ?hg (N := 6) ?hd (cs := #[.int .i64 0, .int .i64 0, .int .i64 0, .int .i64 0, .int .i64 0, .int .i64 0, .int .i64 0]) (t := 27) ?hr ?_; (case hd => rfl); (case hg => rfl); (case hr => first | (go_simp; done) | (go_simp; rfl))
      intro gb325 hg w36 hbox hb
      have n0_ := Aside0.mk (blk_below (g := gb315) (o := .cells #[.int .i64 a0_0, .int .i64 a0_1, .int .i64 a0_2] 23 (0, 0)) (by (with_reducible repeat (first | refine blk_drewN ?_ _ | refine blk_drew ?_ | refine blk_alloc ?_ _)); exact BK315.out) hb)
      have n1_ := Aside0.mk (blk_below (g := gb316) (o := .cells #[.int .i64 a1_0, .int .i64 a1_1, .int .i64 a1_2, .int .i64 a1_3, .int .i64 a1_4, .int .i64 a1_5, .int .i64 a1_6] 27 (0, 0)) (by (with_reducible repeat (first | refine blk_drewN ?_ _ | refine blk_drew ?_ | refine blk_alloc ?_ _)); exact BK316.out) hb)
      have n2_ := Aside0.mk (below_step (by repeat (first | (with_reducible first | exact HB.out | apply below_alloc | apply pw_below_drewN | apply below_drew1 | refine below_set ?_ GE315.out | refine below_set ?_ GE316.out) | exact HB.out)) hb)
      have n3_ := Aside0.mk (hbox)
      have n4_ := Aside0.mk ((by rw [hg]; exact (below_size (by repeat (first | (with_reducible first | exact HB.out | apply below_alloc | apply pw_below_drewN | apply below_drew1 | refine below_set ?_ GE315.out | refine below_set ?_ GE316.out) | exact HB.out))) : w.heap.size ≤ gb325))
      have n5_ := Aside0.mk ((by rw [hg]; exact (below_size (by repeat (first | (with_reducible first | exact HB.out | apply below_alloc | apply pw_below_drewN | apply below_drew1 | refine below_set ?_ GE315.out | refine below_set ?_ GE316.out) | exact HB.out))) : w.heap.size ≤ gb325))
      have n6_ := Aside0.mk ((by rw [hg]; exact Nat.ne_of_lt (blk_lt (g := gb315) (o := .cells #[.int .i64 a0_0, .int .i64 a0_1, .int .i64 a0_2] 23 (0, 0)) (by (with_reducible repeat (first | refine blk_drewN ?_ _ | refine blk_drew ?_ | refine blk_alloc ?_ _)); exact BK315.out)) : gb315 ≠ gb325))
      have n7_ := Aside0.mk ((by rw [hg]; exact Nat.ne_of_gt (blk_lt (g := gb315) (o := .cells #[.int .i64 a0_0, .int .i64 a0_1, .int .i64 a0_2] 23 (0, 0)) (by (with_reducible repeat (first | refine blk_drewN ?_ _ | refine blk_drew ?_ | refine blk_alloc ?_ _)); exact BK315.out)) : gb325 ≠ gb315))
      have n8_ := Aside0.mk ((by rw [hg]; exact Nat.ne_of_lt (blk_lt (g := gb316) (o := .cells #[.int .i64 a1_0, .int .i64 a1_1, .int .i64 a1_2, .int .i64 a1_3, .int .i64 a1_4, .int .i64 a1_5, .int .i64 a1_6] 27 (0, 0)) (by (with_reducible repeat (first | refine blk_drewN ?_ _ | refine blk_drew ?_ | refine blk_alloc ?_ _)); exact BK316.out)) : gb316 ≠ gb325))
      have n9_ := Aside0.mk ((by rw [hg]; exact Nat.ne_of_gt (blk_lt (g := gb316) (o := .cells #[.int .i64 a1_0, .int .i64 a1_1, .int .i64 a1_2, .int .i64 a1_3, .int .i64 a1_4, .int .i64 a1_5, .int .i64 a1_6] 27 (0, 0)) (by (with_reducible repeat (first | refine blk_drewN ?_ _ | refine blk_drew ?_ | refine blk_alloc ?_ _)); exact BK316.out)) : gb325 ≠ gb316))
      clear BK315
      clear BK316
      clear HB
      have BK315 := n0_
      have BK316 := n1_
      have HB := n2_
      have BK325 := n3_
      have GW325 := n4_
      have GE325 := n5_
      have NB315_325 := n6_
      have NB325_315 := n7_
      have NB316_325 := n8_
      have NB325_316 := n9_
      clear n0_ n1_ n2_ n3_ n4_ n5_ n6_ n7_ n8_ n9_
      clear hb hbox hg
      refine hK.out _ _ ⟨(blk_cell BK315.out 0).trans rfl, (blk_cell BK315.out 1).trans rfl, (blk_cell BK315.out 2).trans rfl, (blk_cell BK316.out 0).trans rfl, (blk_cell BK316.out 1).trans rfl, (blk_cell BK316.out 2).trans rfl, (blk_cell BK316.out 3).trans rfl, (blk_cell BK316.out 4).trans rfl, (blk_cell BK316.out 5).trans rfl, (blk_cell BK316.out 6).trans rfl⟩ (fun hHeld => ?_)
      clear hK K
      refine norm_ (a' := ?_) ?_ ?_
      rotate_left
      ·show Act.put _ (some 6) _ = _
       simp only [Act.put, List.setIfInBounds_toArray, List.set_cons_zero, List.set_cons_succ, i64_w, i32_w]
       rfl
      refine one_ (i := 2) (N := some 5) #[true, true, true, true, false, false] rfl rfl (by kernel_rfl) (by decide) (fun K hK => ?_)
      refine box_step ?hg (N := 5) ?hd (cs := #[.int .i64 0, .int .i64 0, .int .i64 0]) (t := 23) ?hr ?_; (case hd => rfl); (case hg => rfl); (case hr => first | (go_simp; done) | (go_simp; rfl))
      intro gb324 hg w37 hbox hb
      have n0_ := Aside0.mk (blk_below (g := gb315) (o := .cells #[.int .i64 a0_0, .int .i64 a0_1, .int .i64 a0_2] 23 (0, 0)) (by (with_reducible repeat (first | refine blk_drewN ?_ _ | refine blk_drew ?_ | refine blk_alloc ?_ _)); exact BK315.out) hb)
      have n1_ := Aside0.mk (blk_below (g := gb316) (o := .cells #[.int .i64 a1_0, .int .i64 a1_1, .int .i64 a1_2, .int .i64 a1_3, .int .i64 a1_4, .int .i64 a1_5, .int .i64 a1_6] 27 (0, 0)) (by (with_reducible repeat (first | refine blk_drewN ?_ _ | refine blk_drew ?_ | refine blk_alloc ?_ _)); exact BK316.out) hb)
      have n2_ := Aside0.mk (blk_below (g := gb325) (o := .cells #[.int .i64 0, .int .i64 0, .int .i64 0, .int .i64 0, .int .i64 0, .int .i64 0, .int .i64 0] 27 (0, 0)) (by (with_reducible repeat (first | refine blk_drewN ?_ _ | refine blk_drew ?_ | refine blk_alloc ?_ _)); exact BK325.out) hb)
      have n3_ := Aside0.mk (below_step (by repeat (first | (with_reducible first | exact HB.out | apply below_alloc | apply pw_below_drewN | apply below_drew1 | refine below_set ?_ GE315.out | refine below_set ?_ GE316.out | refine below_set ?_ GE325.out) | exact HB.out)) hb)
      have n4_ := Aside0.mk (hbox)
      have n5_ := Aside0.mk ((by rw [hg]; exact (below_size (by repeat (first | (with_reducible first | exact HB.out | apply below_alloc | apply pw_below_drewN | apply below_drew1 | refine below_set ?_ GE315.out | refine below_set ?_ GE316.out | refine below_set ?_ GE325.out) | exact HB.out))) : w.heap.size ≤ gb324))
      have n6_ := Aside0.mk ((by rw [hg]; exact (below_size (by repeat (first | (with_reducible first | exact HB.out | apply below_alloc | apply pw_below_drewN | apply below_drew1 | refine below_set ?_ GE315.out | refine below_set ?_ GE316.out | refine below_set ?_ GE325.out) | exact HB.out))) : w.heap.size ≤ gb324))
      have n7_ := Aside0.mk ((by rw [hg]; exact Nat.ne_of_lt (blk_lt (g := gb315) (o := .cells #[.int .i64 a0_0, .int .i64 a0_1, .int .i64 a0_2] 23 (0, 0)) (by (with_reducible repeat (first | refine blk_drewN ?_ _ | refine blk_drew ?_ | refine blk_alloc ?_ _)); exact BK315.out)) : gb315 ≠ gb324))
      have n8_ := Aside0.mk ((by rw [hg]; exact Nat.ne_of_gt (blk_lt (g := gb315) (o := .cells #[.int .i64 a0_0, .int .i64 a0_1, .int .i64 a0_2] 23 (0, 0)) (by (with_reducible repeat (first | refine blk_drewN ?_ _ | refine blk_drew ?_ | refine blk_alloc ?_ _)); exact BK315.out)) : gb324 ≠ gb315))
      have n9_ := Aside0.mk ((by rw [hg]; exact Nat.ne_of_lt (blk_lt (g := gb316) (o := .cells #[.int .i64 a1_0, .int .i64 a1_1, .int .i64 a1_2, .int .i64 a1_3, .int .i64 a1_4, .int .i64 a1_5, .int .i64 a1_6] 27 (0, 0)) (by (with_reducible repeat (first | refine blk_drewN ?_ _ | refine blk_drew ?_ | refine blk_alloc ?_ _)); exact BK316.out)) : gb316 ≠ gb324))
      have n10_ := Aside0.mk ((by rw [hg]; exact Nat.ne_of_gt (blk_lt (g := gb316) (o := .cells #[.int .i64 a1_0, .int .i64 a1_1, .int .i64 a1_2, .int .i64 a1_3, .int .i64 a1_4, .int .i64 a1_5, .int .i64 a1_6] 27 (0, 0)) (by (with_reducible repeat (first | refine blk_drewN ?_ _ | refine blk_drew ?_ | refine blk_alloc ?_ _)); exact BK316.out)) : gb324 ≠ gb316))
      have n11_ := Aside0.mk ((by rw [hg]; exact Nat.ne_of_lt (blk_lt (g := gb325) (o := .cells #[.int .i64 0, .int .i64 0, .int .i64 0, .int .i64 0, .int .i64 0, .int .i64 0, .int .i64 0] 27 (0, 0)) (by (with_reducible repeat (first | refine blk_drewN ?_ _ | refine blk_drew ?_ | refine blk_alloc ?_ _)); exact BK325.out)) : gb325 ≠ gb324))
      have n12_ := Aside0.mk ((by rw [hg]; exact Nat.ne_of_gt (blk_lt (g := gb325) (o := .cells #[.int .i64 0, .int .i64 0, .int .i64 0, .int .i64 0, .int .i64 0, .int .i64 0, .int .i64 0] 27 (0, 0)) (by (with_reducible repeat (first | refine blk_drewN ?_ _ | refine blk_drew ?_ | refine blk_alloc ?_ _)); exact BK325.out)) : gb324 ≠ gb325))
      clear BK315
      clear BK316
      clear BK325
      clear HB
      have BK315 := n0_
      have BK316 := n1_
      have BK325 := n2_
      have HB := n3_
      have BK324 := n4_
      have GW324 := n5_
      have GE324 := n6_
      have NB315_324 := n7_
      have NB324_315 := n8_
      have NB316_324 := n9_
      have NB324_316 := n10_
      have NB325_324 := n11_
      have NB324_325 := n12_
      clear n0_ n1_ n2_ n3_ n4_ n5_ n6_ n7_ n8_ n9_ n10_ n11_ n12_
      clear hb hbox hg
      refine hK.out _ _ ⟨(blk_cell BK315.out 0).trans rfl, (blk_cell BK315.out 1).trans rfl, (blk_cell BK315.out 2).trans rfl, (blk_cell BK316.out 0).trans rfl, (blk_cell BK316.out 1).trans rfl, (blk_cell BK316.out 2).trans rfl, (blk_cell BK316.out 3).trans rfl, (blk_cell BK316.out 4).trans rfl, (blk_cell BK316.out 5).trans rfl, (blk_cell BK316.out 6).trans rfl⟩ (fun hHeld => ?_)
      clear hK K
      refine norm_ (a' := ?_) ?_ ?_
      rotate_left
      ·show Act.put _ (some 5) _ = _
       simp only [Act.put, List.setIfInBounds_toArray, List.set_cons_zero, List.set_cons_succ, i64_w, i32_w]
       rfl
      exact norm_ (by simp only [putAll, Act.put, List.setIfInBounds_toArray, List.set_cons_zero, List.set_cons_succ]) (hCont (gb324, gb325) _ ⟨hHeld, (by (with_reducible repeat (first | refine blk_drewN ?_ _ | refine blk_drew ?_ | refine blk_alloc ?_ _)); exact BK315.out), (by (with_reducible repeat (first | refine blk_drewN ?_ _ | refine blk_drew ?_ | refine blk_alloc ?_ _)); exact BK316.out), (by (with_reducible repeat (first | refine blk_drewN ?_ _ | refine blk_drew ?_ | refine blk_alloc ?_ _)); exact BK324.out), (by (with_reducible repeat (first | refine blk_drewN ?_ _ | refine blk_drew ?_ | refine blk_alloc ?_ _)); exact BK325.out), GW324.out, GE324.out, NB315_324.out, NB324_315.out, NB316_324.out, NB324_316.out, NB325_324.out, NB324_325.out, GW325.out, GE325.out, NB315_325.out, NB325_315.out, NB316_325.out, NB325_316.out, (by repeat (first | (with_reducible first | exact HB.out | apply below_alloc | apply pw_below_drewN | apply below_drew1 | refine below_set ?_ GE315.out | refine below_set ?_ GE316.out | refine below_set ?_ GE325.out | refine below_set ?_ GE324.out) | exact HB.out))⟩)
    rintro ⟨gb324, gb325⟩ w38 ⟨hS_, h0_, h1_, h2_, h3_, h4_, h5_, h6_, h7_, h8_, h9_, h10_, h11_, h12_, h13_, h14_, h15_, h16_, h17_, h18_⟩
    have n0_ : Aside0 (w38.heap[gb315]? = some (.cells #[.int .i64 a0_0, .int .i64 a0_1, .int .i64 a0_2] 23 (0, 0))) := ⟨h0_⟩
    have n1_ : Aside0 (w38.heap[gb316]? = some (.cells #[.int .i64 a1_0, .int .i64 a1_1, .int .i64 a1_2, .int .i64 a1_3, .int .i64 a1_4, .int .i64 a1_5, .int .i64 a1_6] 27 (0, 0))) := ⟨h1_⟩
    have n2_ : Aside0 (w38.heap[gb324]? = some (.cells #[.int .i64 0, .int .i64 0, .int .i64 0] 23 (0, 0))) := ⟨h2_⟩
    have n3_ : Aside0 (w38.heap[gb325]? = some (.cells #[.int .i64 0, .int .i64 0, .int .i64 0, .int .i64 0, .int .i64 0, .int .i64 0, .int .i64 0] 27 (0, 0))) := ⟨h3_⟩
    have n4_ : Aside0 (w.heap.size ≤ gb324) := ⟨h4_⟩
    have n5_ : Aside0 (w.heap.size ≤ gb324) := ⟨h5_⟩
    have n6_ : Aside0 (gb315 ≠ gb324) := ⟨h6_⟩
    have n7_ : Aside0 (gb324 ≠ gb315) := ⟨h7_⟩
    have n8_ : Aside0 (gb316 ≠ gb324) := ⟨h8_⟩
    have n9_ : Aside0 (gb324 ≠ gb316) := ⟨h9_⟩
    have n10_ : Aside0 (gb325 ≠ gb324) := ⟨h10_⟩
    have n11_ : Aside0 (gb324 ≠ gb325) := ⟨h11_⟩
    have n12_ : Aside0 (w.heap.size ≤ gb325) := ⟨h12_⟩
    have n13_ : Aside0 (w.heap.size ≤ gb325) := ⟨h13_⟩
    have n14_ : Aside0 (gb315 ≠ gb325) := ⟨h14_⟩
    have n15_ : Aside0 (gb325 ≠ gb315) := ⟨h15_⟩
    have n16_ : Aside0 (gb316 ≠ gb325) := ⟨h16_⟩
    have n17_ : Aside0 (gb325 ≠ gb316) := ⟨h17_⟩
    have n18_ : Aside0 (Below w.heap.size w w38) := ⟨h18_⟩
    clear BK315
    clear BK316
    clear HB
    clear h0_ h1_ h2_ h3_ h4_ h5_ h6_ h7_ h8_ h9_ h10_ h11_ h12_ h13_ h14_ h15_ h16_ h17_ h18_
    have BK315 := n0_
    have BK316 := n1_
    have BK324 := n2_
    have BK325 := n3_
    have GW324 := n4_
    have GE324 := n5_
    have NB315_324 := n6_
    have NB324_315 := n7_
    have NB316_324 := n8_
    have NB324_316 := n9_
    have NB325_324 := n10_
    have NB324_325 := n11_
    have GW325 := n12_
    have GE325 := n13_
    have NB315_325 := n14_
    have NB325_315 := n15_
    have NB316_325 := n16_
    have NB325_316 := n17_
    have HB := n18_
    clear n0_ n1_ n2_ n3_ n4_ n5_ n6_ n7_ n8_ n9_ n10_ n11_ n12_ n13_ n14_ n15_ n16_ n17_ n18_
    have hHeld : w38.cell? ⟨gb315, 0, none⟩ = some (.int .i64 a0_0) ∧ w38.cell? ⟨gb315, 1, none⟩ = some (.int .i64 a0_1) ∧ w38.cell? ⟨gb315, 2, none⟩ = some (.int .i64 a0_2) ∧ w38.cell? ⟨gb316, 0, none⟩ = some (.int .i64 a1_0) ∧ w38.cell? ⟨gb316, 1, none⟩ = some (.int .i64 a1_1) ∧ w38.cell? ⟨gb316, 2, none⟩ = some (.int .i64 a1_2) ∧ w38.cell? ⟨gb316, 3, none⟩ = some (.int .i64 a1_3) ∧ w38.cell? ⟨gb316, 4, none⟩ = some (.int .i64 a1_4) ∧ w38.cell? ⟨gb316, 5, none⟩ = some (.int .i64 a1_5) ∧ w38.cell? ⟨gb316, 6, none⟩ = some (.int .i64 a1_6) := hS_
    refine norm_ (a' := ?_) ?_ ?_
    rotate_left
    ·simp only [putAll, Act.put, List.setIfInBounds_toArray, List.set_cons_zero, List.set_cons_succ]
     rfl
    refine one_ (i := 4) (N := none) #[true, true, true, true, true, false] rfl rfl (by kernel_rfl) (by decide) (fun K hK => ?_)
    have hs39 : w38.cell? ⟨gb324, 0, none⟩ = some (.int .i64 0) := (blk_cell BK324.out 0).trans rfl
    have hfs39 := blk_frozen BK324.out 0
    have hns39_0 := NB315_324.out
    have hns39_1 := NB316_324.out
    have hns39_3 := NB325_324.out
    have hms39_0 := NB324_315.out
    have hms39_1 := NB324_316.out
    have hms39_3 := NB324_325.out
    have hs40 : w38.cell? ⟨gb324, 1, none⟩ = some (.int .i64 0) := (blk_cell BK324.out 1).trans rfl
    have hfs40 := blk_frozen BK324.out 1
    have hns40_0 := NB315_324.out
    have hns40_1 := NB316_324.out
    have hns40_3 := NB325_324.out
    have hms40_0 := NB324_315.out
    have hms40_1 := NB324_316.out
    have hms40_3 := NB324_325.out
    have hs41 : w38.cell? ⟨gb324, 2, none⟩ = some (.int .i64 0) := (blk_cell BK324.out 2).trans rfl
    have hfs41 := blk_frozen BK324.out 2
    have hns41_0 := NB315_324.out
    have hns41_1 := NB316_324.out
    have hns41_3 := NB325_324.out
    have hms41_0 := NB324_315.out
    have hms41_1 := NB324_316.out
    have hms41_3 := NB324_325.out
    refine skip_ (w1 := ?_) (by rfl) rfl ?_ ?_
    rotate_left
    ·go_simp
     rfl
    refine hK.out _ _ ⟨((cell_far (p := ⟨gb324, _, none⟩) NB315_324.out _).trans (((cell_far (p := ⟨gb324, _, none⟩) NB315_324.out _).trans (((cell_far (p := ⟨gb324, _, none⟩) NB315_324.out _).trans (hHeld.1)))))), ((cell_far (p := ⟨gb324, _, none⟩) NB315_324.out _).trans (((cell_far (p := ⟨gb324, _, none⟩) NB315_324.out _).trans (((cell_far (p := ⟨gb324, _, none⟩) NB315_324.out _).trans (hHeld.2.1)))))), ((cell_far (p := ⟨gb324, _, none⟩) NB315_324.out _).trans (((cell_far (p := ⟨gb324, _, none⟩) NB315_324.out _).trans (((cell_far (p := ⟨gb324, _, none⟩) NB315_324.out _).trans (hHeld.2.2.1)))))), ((cell_far (p := ⟨gb324, _, none⟩) NB316_324.out _).trans (((cell_far (p := ⟨gb324, _, none⟩) NB316_324.out _).trans (((cell_far (p := ⟨gb324, _, none⟩) NB316_324.out _).trans (hHeld.2.2.2.1)))))), ((cell_far (p := ⟨gb324, _, none⟩) NB316_324.out _).trans (((cell_far (p := ⟨gb324, _, none⟩) NB316_324.out _).trans (((cell_far (p := ⟨gb324, _, none⟩) NB316_324.out _).trans (hHeld.2.2.2.2.1)))))), ((cell_far (p := ⟨gb324, _, none⟩) NB316_324.out _).trans (((cell_far (p := ⟨gb324, _, none⟩) NB316_324.out _).trans (((cell_far (p := ⟨gb324, _, none⟩) NB316_324.out _).trans (hHeld.2.2.2.2.2.1)))))), ((cell_far (p := ⟨gb324, _, none⟩) NB316_324.out _).trans (((cell_far (p := ⟨gb324, _, none⟩) NB316_324.out _).trans (((cell_far (p := ⟨gb324, _, none⟩) NB316_324.out _).trans (hHeld.2.2.2.2.2.2.1)))))), ((cell_far (p := ⟨gb324, _, none⟩) NB316_324.out _).trans (((cell_far (p := ⟨gb324, _, none⟩) NB316_324.out _).trans (((cell_far (p := ⟨gb324, _, none⟩) NB316_324.out _).trans (hHeld.2.2.2.2.2.2.2.1)))))), ((cell_far (p := ⟨gb324, _, none⟩) NB316_324.out _).trans (((cell_far (p := ⟨gb324, _, none⟩) NB316_324.out _).trans (((cell_far (p := ⟨gb324, _, none⟩) NB316_324.out _).trans (hHeld.2.2.2.2.2.2.2.2.1)))))), ((cell_far (p := ⟨gb324, _, none⟩) NB316_324.out _).trans (((cell_far (p := ⟨gb324, _, none⟩) NB316_324.out _).trans (((cell_far (p := ⟨gb324, _, none⟩) NB316_324.out _).trans (hHeld.2.2.2.2.2.2.2.2.2))))))⟩ (fun hHeld => ?_)
    clear hK K
    refine one_ (i := 5) (N := none) #[true, true, true, true, true, true] rfl rfl (by kernel_rfl) (by decide) (fun K hK => ?_)
    have hs42 : w38.cell? ⟨gb325, 0, none⟩ = some (.int .i64 0) := (blk_cell BK325.out 0).trans rfl
    have hfs42 := blk_frozen BK325.out 0
    have hns42_0 := NB315_325.out
    have hns42_1 := NB316_325.out
    have hns42_2 := NB324_325.out
    have hms42_0 := NB325_315.out
    have hms42_1 := NB325_316.out
    have hms42_2 := NB325_324.out
    have hs43 : w38.cell? ⟨gb325, 1, none⟩ = some (.int .i64 0) := (blk_cell BK325.out 1).trans rfl
    have hfs43 := blk_frozen BK325.out 1
    have hns43_0 := NB315_325.out
    have hns43_1 := NB316_325.out
    have hns43_2 := NB324_325.out
    have hms43_0 := NB325_315.out
    have hms43_1 := NB325_316.out
    have hms43_2 := NB325_324.out
    have hs44 : w38.cell? ⟨gb325, 2, none⟩ = some (.int .i64 0) := (blk_cell BK325.out 2).trans rfl
    have hfs44 := blk_frozen BK325.out 2
    have hns44_0 := NB315_325.out
    have hns44_1 := NB316_325.out
    have hns44_2 := NB324_325.out
    have hms44_0 := NB325_315.out
    have hms44_1 := NB325_316.out
    have hms44_2 := NB325_324.out
    have hs45 : w38.cell? ⟨gb325, 3, none⟩ = some (.int .i64 0) := (blk_cell BK325.out 3).trans rfl
    have hfs45 := blk_frozen BK325.out 3
    have hns45_0 := NB315_325.out
    have hns45_1 := NB316_325.out
    have hns45_2 := NB324_325.out
    have hms45_0 := NB325_315.out
    have hms45_1 := NB325_316.out
    have hms45_2 := NB325_324.out
    have hs46 : w38.cell? ⟨gb325, 4, none⟩ = some (.int .i64 0) := (blk_cell BK325.out 4).trans rfl
    have hfs46 := blk_frozen BK325.out 4
    have hns46_0 := NB315_325.out
    have hns46_1 := NB316_325.out
    have hns46_2 := NB324_325.out
    have hms46_0 := NB325_315.out
    have hms46_1 := NB325_316.out
    have hms46_2 := NB325_324.out
    have hs47 : w38.cell? ⟨gb325, 5, none⟩ = some (.int .i64 0) := (blk_cell BK325.out 5).trans rfl
    have hfs47 := blk_frozen BK325.out 5
    have hns47_0 := NB315_325.out
    have hns47_1 := NB316_325.out
    have hns47_2 := NB324_325.out
    have hms47_0 := NB325_315.out
    have hms47_1 := NB325_316.out
    have hms47_2 := NB325_324.out
    have hs48 : w38.cell? ⟨gb325, 6, none⟩ = some (.int .i64 0) := (blk_cell BK325.out 6).trans rfl
    have hfs48 := blk_frozen BK325.out 6
    have hns48_0 := NB315_325.out
    have hns48_1 := NB316_325.out
    have hns48_2 := NB324_325.out
    have hms48_0 := NB325_315.out
    have hms48_1 := NB325_316.out
    have hms48_2 := NB325_324.out
    refine skip_ (w1 := ?_) (by rfl) rfl ?_ ?_
    rotate_left
    ·go_simp
     rfl
    refine hK.out _ _ ⟨((cell_far (p := ⟨gb325, _, none⟩) NB315_325.out _).trans (((cell_far (p := ⟨gb325, _, none⟩) NB315_325.out _).trans (((cell_far (p := ⟨gb325, _, none⟩) NB315_325.out _).trans (((cell_far (p := ⟨gb325, _, none⟩) NB315_325.out _).trans (((cell_far (p := ⟨gb325, _, none⟩) NB315_325.out _).trans (((cell_far (p := ⟨gb325, _, none⟩) NB315_325.out _).trans (((cell_far (p := ⟨gb325, _, none⟩) NB315_325.out _).trans (hHeld.1)))))))))))))), ((cell_far (p := ⟨gb325, _, none⟩) NB315_325.out _).trans (((cell_far (p := ⟨gb325, _, none⟩) NB315_325.out _).trans (((cell_far (p := ⟨gb325, _, none⟩) NB315_325.out _).trans (((cell_far (p := ⟨gb325, _, none⟩) NB315_325.out _).trans (((cell_far (p := ⟨gb325, _, none⟩) NB315_325.out _).trans (((cell_far (p := ⟨gb325, _, none⟩) NB315_325.out _).trans (((cell_far (p := ⟨gb325, _, none⟩) NB315_325.out _).trans (hHeld.2.1)))))))))))))), ((cell_far (p := ⟨gb325, _, none⟩) NB315_325.out _).trans (((cell_far (p := ⟨gb325, _, none⟩) NB315_325.out _).trans (((cell_far (p := ⟨gb325, _, none⟩) NB315_325.out _).trans (((cell_far (p := ⟨gb325, _, none⟩) NB315_325.out _).trans (((cell_far (p := ⟨gb325, _, none⟩) NB315_325.out _).trans (((cell_far (p := ⟨gb325, _, none⟩) NB315_325.out _).trans (((cell_far (p := ⟨gb325, _, none⟩) NB315_325.out _).trans (hHeld.2.2.1)))))))))))))), ((cell_far (p := ⟨gb325, _, none⟩) NB316_325.out _).trans (((cell_far (p := ⟨gb325, _, none⟩) NB316_325.out _).trans (((cell_far (p := ⟨gb325, _, none⟩) NB316_325.out _).trans (((cell_far (p := ⟨gb325, _, none⟩) NB316_325.out _).trans (((cell_far (p := ⟨gb325, _, none⟩) NB316_325.out _).trans (((cell_far (p := ⟨gb325, _, none⟩) NB316_325.out _).trans (((cell_far (p := ⟨gb325, _, none⟩) NB316_325.out _).trans (hHeld.2.2.2.1)))))))))))))), ((cell_far (p := ⟨gb325, _, none⟩) NB316_325.out _).trans (((cell_far (p := ⟨gb325, _, none⟩) NB316_325.out _).trans (((cell_far (p := ⟨gb325, _, none⟩) NB316_325.out _).trans (((cell_far (p := ⟨gb325, _, none⟩) NB316_325.out _).trans (((cell_far (p := ⟨gb325, _, none⟩) NB316_325.out _).trans (((cell_far (p := ⟨gb325, _, none⟩) NB316_325.out _).trans (((cell_far (p := ⟨gb325, _, none⟩) NB316_325.out _).trans (hHeld.2.2.2.2.1)))))))))))))), ((cell_far (p := ⟨gb325, _, none⟩) NB316_325.out _).trans (((cell_far (p := ⟨gb325, _, none⟩) NB316_325.out _).trans (((cell_far (p := ⟨gb325, _, none⟩) NB316_325.out _).trans (((cell_far (p := ⟨gb325, _, none⟩) NB316_325.out _).trans (((cell_far (p := ⟨gb325, _, none⟩) NB316_325.out _).trans (((cell_far (p := ⟨gb325, _, none⟩) NB316_325.out _).trans (((cell_far (p := ⟨gb325, _, none⟩) NB316_325.out _).trans (hHeld.2.2.2.2.2.1)))))))))))))), ((cell_far (p := ⟨gb325, _, none⟩) NB316_325.out _).trans (((cell_far (p := ⟨gb325, _, none⟩) NB316_325.out _).trans (((cell_far (p := ⟨gb325, _, none⟩) NB316_325.out _).trans (((cell_far (p := ⟨gb325, _, none⟩) NB316_325.out _).trans (((cell_far (p := ⟨gb325, _, none⟩) NB316_325.out _).trans (((cell_far (p := ⟨gb325, _, none⟩) NB316_325.out _).trans (((cell_far (p := ⟨gb325, _, none⟩) NB316_325.out _).trans (hHeld.2.2.2.2.2.2.1)))))))))))))), ((cell_far (p := ⟨gb325, _, none⟩) NB316_325.out _).trans (((cell_far (p := ⟨gb325, _, none⟩) NB316_325.out _).trans (((cell_far (p := ⟨gb325, _, none⟩) NB316_325.out _).trans (((cell_far (p := ⟨gb325, _, none⟩) NB316_325.out _).trans (((cell_far (p := ⟨gb325, _, none⟩) NB316_325.out _).trans (((cell_far (p := ⟨gb325, _, none⟩) NB316_325.out _).trans (((cell_far (p := ⟨gb325, _, none⟩) NB316_325.out _).trans (hHeld.2.2.2.2.2.2.2.1)))))))))))))), ((cell_far (p := ⟨gb325, _, none⟩) NB316_325.out _).trans (((cell_far (p := ⟨gb325, _, none⟩) NB316_325.out _).trans (((cell_far (p := ⟨gb325, _, none⟩) NB316_325.out _).trans (((cell_far (p := ⟨gb325, _, none⟩) NB316_325.out _).trans (((cell_far (p := ⟨gb325, _, none⟩) NB316_325.out _).trans (((cell_far (p := ⟨gb325, _, none⟩) NB316_325.out _).trans (((cell_far (p := ⟨gb325, _, none⟩) NB316_325.out _).trans (hHeld.2.2.2.2.2.2.2.2.1)))))))))))))), ((cell_far (p := ⟨gb325, _, none⟩) NB316_325.out _).trans (((cell_far (p := ⟨gb325, _, none⟩) NB316_325.out _).trans (((cell_far (p := ⟨gb325, _, none⟩) NB316_325.out _).trans (((cell_far (p := ⟨gb325, _, none⟩) NB316_325.out _).trans (((cell_far (p := ⟨gb325, _, none⟩) NB316_325.out _).trans (((cell_far (p := ⟨gb325, _, none⟩) NB316_325.out _).trans (((cell_far (p := ⟨gb325, _, none⟩) NB316_325.out _).trans (hHeld.2.2.2.2.2.2.2.2.2))))))))))))))⟩ (fun hHeld => ?_)
    clear hK K
    refine done_ (by kernel_rfl) ?_
    try go_wp2
    have n0_ : Aside0 (((((((((((w38.setCell ⟨gb324, 0, none⟩ (.int .i64 a0_0)).setCell ⟨gb324, 1, none⟩ (.int .i64 a0_1)).setCell ⟨gb324, 2, none⟩ (.int .i64 a0_2)).setCell ⟨gb325, 0, none⟩ (.int .i64 a1_0)).setCell ⟨gb325, 1, none⟩ (.int .i64 a1_1)).setCell ⟨gb325, 2, none⟩ (.int .i64 a1_2)).setCell ⟨gb325, 3, none⟩ (.int .i64 a1_3)).setCell ⟨gb325, 4, none⟩ (.int .i64 a1_4)).setCell ⟨gb325, 5, none⟩ (.int .i64 a1_5)).setCell ⟨gb325, 6, none⟩ (.int .i64 a1_6)).heap[gb315]? = some (.cells #[.int .i64 a0_0, .int .i64 a0_1, .int .i64 a0_2] 23 (0, 0))) := ⟨by (with_reducible repeat (first | refine blk_drewN ?_ _ | refine blk_drew ?_ | refine blk_alloc ?_ _)); refine blk_far ?_ NB315_325.out _; (with_reducible repeat (first | refine blk_drewN ?_ _ | refine blk_drew ?_ | refine blk_alloc ?_ _)); refine blk_far ?_ NB315_325.out _; (with_reducible repeat (first | refine blk_drewN ?_ _ | refine blk_drew ?_ | refine blk_alloc ?_ _)); refine blk_far ?_ NB315_325.out _; (with_reducible repeat (first | refine blk_drewN ?_ _ | refine blk_drew ?_ | refine blk_alloc ?_ _)); refine blk_far ?_ NB315_325.out _; (with_reducible repeat (first | refine blk_drewN ?_ _ | refine blk_drew ?_ | refine blk_alloc ?_ _)); refine blk_far ?_ NB315_325.out _; (with_reducible repeat (first | refine blk_drewN ?_ _ | refine blk_drew ?_ | refine blk_alloc ?_ _)); refine blk_far ?_ NB315_325.out _; (with_reducible repeat (first | refine blk_drewN ?_ _ | refine blk_drew ?_ | refine blk_alloc ?_ _)); refine blk_far ?_ NB315_325.out _; (with_reducible repeat (first | refine blk_drewN ?_ _ | refine blk_drew ?_ | refine blk_alloc ?_ _)); refine blk_far ?_ NB315_324.out _; (with_reducible repeat (first | refine blk_drewN ?_ _ | refine blk_drew ?_ | refine blk_alloc ?_ _)); refine blk_far ?_ NB315_324.out _; (with_reducible repeat (first | refine blk_drewN ?_ _ | refine blk_drew ?_ | refine blk_alloc ?_ _)); refine blk_far ?_ NB315_324.out _; (with_reducible repeat (first | refine blk_drewN ?_ _ | refine blk_drew ?_ | refine blk_alloc ?_ _)); exact BK315.out⟩
    have n1_ : Aside0 (((((((((((w38.setCell ⟨gb324, 0, none⟩ (.int .i64 a0_0)).setCell ⟨gb324, 1, none⟩ (.int .i64 a0_1)).setCell ⟨gb324, 2, none⟩ (.int .i64 a0_2)).setCell ⟨gb325, 0, none⟩ (.int .i64 a1_0)).setCell ⟨gb325, 1, none⟩ (.int .i64 a1_1)).setCell ⟨gb325, 2, none⟩ (.int .i64 a1_2)).setCell ⟨gb325, 3, none⟩ (.int .i64 a1_3)).setCell ⟨gb325, 4, none⟩ (.int .i64 a1_4)).setCell ⟨gb325, 5, none⟩ (.int .i64 a1_5)).setCell ⟨gb325, 6, none⟩ (.int .i64 a1_6)).heap[gb316]? = some (.cells #[.int .i64 a1_0, .int .i64 a1_1, .int .i64 a1_2, .int .i64 a1_3, .int .i64 a1_4, .int .i64 a1_5, .int .i64 a1_6] 27 (0, 0))) := ⟨by (with_reducible repeat (first | refine blk_drewN ?_ _ | refine blk_drew ?_ | refine blk_alloc ?_ _)); refine blk_far ?_ NB316_325.out _; (with_reducible repeat (first | refine blk_drewN ?_ _ | refine blk_drew ?_ | refine blk_alloc ?_ _)); refine blk_far ?_ NB316_325.out _; (with_reducible repeat (first | refine blk_drewN ?_ _ | refine blk_drew ?_ | refine blk_alloc ?_ _)); refine blk_far ?_ NB316_325.out _; (with_reducible repeat (first | refine blk_drewN ?_ _ | refine blk_drew ?_ | refine blk_alloc ?_ _)); refine blk_far ?_ NB316_325.out _; (with_reducible repeat (first | refine blk_drewN ?_ _ | refine blk_drew ?_ | refine blk_alloc ?_ _)); refine blk_far ?_ NB316_325.out _; (with_reducible repeat (first | refine blk_drewN ?_ _ | refine blk_drew ?_ | refine blk_alloc ?_ _)); refine blk_far ?_ NB316_325.out _; (with_reducible repeat (first | refine blk_drewN ?_ _ | refine blk_drew ?_ | refine blk_alloc ?_ _)); refine blk_far ?_ NB316_325.out _; (with_reducible repeat (first | refine blk_drewN ?_ _ | refine blk_drew ?_ | refine blk_alloc ?_ _)); refine blk_far ?_ NB316_324.out _; (with_reducible repeat (first | refine blk_drewN ?_ _ | refine blk_drew ?_ | refine blk_alloc ?_ _)); refine blk_far ?_ NB316_324.out _; (with_reducible repeat (first | refine blk_drewN ?_ _ | refine blk_drew ?_ | refine blk_alloc ?_ _)); refine blk_far ?_ NB316_324.out _; (with_reducible repeat (first | refine blk_drewN ?_ _ | refine blk_drew ?_ | refine blk_alloc ?_ _)); exact BK316.out⟩
    have n2_ : Aside0 (((((((((((w38.setCell ⟨gb324, 0, none⟩ (.int .i64 a0_0)).setCell ⟨gb324, 1, none⟩ (.int .i64 a0_1)).setCell ⟨gb324, 2, none⟩ (.int .i64 a0_2)).setCell ⟨gb325, 0, none⟩ (.int .i64 a1_0)).setCell ⟨gb325, 1, none⟩ (.int .i64 a1_1)).setCell ⟨gb325, 2, none⟩ (.int .i64 a1_2)).setCell ⟨gb325, 3, none⟩ (.int .i64 a1_3)).setCell ⟨gb325, 4, none⟩ (.int .i64 a1_4)).setCell ⟨gb325, 5, none⟩ (.int .i64 a1_5)).setCell ⟨gb325, 6, none⟩ (.int .i64 a1_6)).heap[gb324]? = some (.cells #[.int .i64 a0_0, .int .i64 a0_1, .int .i64 a0_2] 23 (0, 0))) := ⟨by (with_reducible repeat (first | refine blk_drewN ?_ _ | refine blk_drew ?_ | refine blk_alloc ?_ _)); refine blk_far ?_ NB324_325.out _; (with_reducible repeat (first | refine blk_drewN ?_ _ | refine blk_drew ?_ | refine blk_alloc ?_ _)); refine blk_far ?_ NB324_325.out _; (with_reducible repeat (first | refine blk_drewN ?_ _ | refine blk_drew ?_ | refine blk_alloc ?_ _)); refine blk_far ?_ NB324_325.out _; (with_reducible repeat (first | refine blk_drewN ?_ _ | refine blk_drew ?_ | refine blk_alloc ?_ _)); refine blk_far ?_ NB324_325.out _; (with_reducible repeat (first | refine blk_drewN ?_ _ | refine blk_drew ?_ | refine blk_alloc ?_ _)); refine blk_far ?_ NB324_325.out _; (with_reducible repeat (first | refine blk_drewN ?_ _ | refine blk_drew ?_ | refine blk_alloc ?_ _)); refine blk_far ?_ NB324_325.out _; (with_reducible repeat (first | refine blk_drewN ?_ _ | refine blk_drew ?_ | refine blk_alloc ?_ _)); refine blk_far ?_ NB324_325.out _; (with_reducible repeat (first | refine blk_drewN ?_ _ | refine blk_drew ?_ | refine blk_alloc ?_ _)); refine blk_put (cs := #[.int .i64 a0_0, .int .i64 a0_1, .int .i64 0]) ?_ 2 _ rfl; (with_reducible repeat (first | refine blk_drewN ?_ _ | refine blk_drew ?_ | refine blk_alloc ?_ _)); refine blk_put (cs := #[.int .i64 a0_0, .int .i64 0, .int .i64 0]) ?_ 1 _ rfl; (with_reducible repeat (first | refine blk_drewN ?_ _ | refine blk_drew ?_ | refine blk_alloc ?_ _)); refine blk_put (cs := #[.int .i64 0, .int .i64 0, .int .i64 0]) ?_ 0 _ rfl; (with_reducible repeat (first | refine blk_drewN ?_ _ | refine blk_drew ?_ | refine blk_alloc ?_ _)); exact BK324.out⟩
    have n3_ : Aside0 (((((((((((w38.setCell ⟨gb324, 0, none⟩ (.int .i64 a0_0)).setCell ⟨gb324, 1, none⟩ (.int .i64 a0_1)).setCell ⟨gb324, 2, none⟩ (.int .i64 a0_2)).setCell ⟨gb325, 0, none⟩ (.int .i64 a1_0)).setCell ⟨gb325, 1, none⟩ (.int .i64 a1_1)).setCell ⟨gb325, 2, none⟩ (.int .i64 a1_2)).setCell ⟨gb325, 3, none⟩ (.int .i64 a1_3)).setCell ⟨gb325, 4, none⟩ (.int .i64 a1_4)).setCell ⟨gb325, 5, none⟩ (.int .i64 a1_5)).setCell ⟨gb325, 6, none⟩ (.int .i64 a1_6)).heap[gb325]? = some (.cells #[.int .i64 a1_0, .int .i64 a1_1, .int .i64 a1_2, .int .i64 a1_3, .int .i64 a1_4, .int .i64 a1_5, .int .i64 a1_6] 27 (0, 0))) := ⟨by (with_reducible repeat (first | refine blk_drewN ?_ _ | refine blk_drew ?_ | refine blk_alloc ?_ _)); refine blk_put (cs := #[.int .i64 a1_0, .int .i64 a1_1, .int .i64 a1_2, .int .i64 a1_3, .int .i64 a1_4, .int .i64 a1_5, .int .i64 0]) ?_ 6 _ rfl; (with_reducible repeat (first | refine blk_drewN ?_ _ | refine blk_drew ?_ | refine blk_alloc ?_ _)); refine blk_put (cs := #[.int .i64 a1_0, .int .i64 a1_1, .int .i64 a1_2, .int .i64 a1_3, .int .i64 a1_4, .int .i64 0, .int .i64 0]) ?_ 5 _ rfl; (with_reducible repeat (first | refine blk_drewN ?_ _ | refine blk_drew ?_ | refine blk_alloc ?_ _)); refine blk_put (cs := #[.int .i64 a1_0, .int .i64 a1_1, .int .i64 a1_2, .int .i64 a1_3, .int .i64 0, .int .i64 0, .int .i64 0]) ?_ 4 _ rfl; (with_reducible repeat (first | refine blk_drewN ?_ _ | refine blk_drew ?_ | refine blk_alloc ?_ _)); refine blk_put (cs := #[.int .i64 a1_0, .int .i64 a1_1, .int .i64 a1_2, .int .i64 0, .int .i64 0, .int .i64 0, .int .i64 0]) ?_ 3 _ rfl; (with_reducible repeat (first | refine blk_drewN ?_ _ | refine blk_drew ?_ | refine blk_alloc ?_ _)); refine blk_put (cs := #[.int .i64 a1_0, .int .i64 a1_1, .int .i64 0, .int .i64 0, .int .i64 0, .int .i64 0, .int .i64 0]) ?_ 2 _ rfl; (with_reducible repeat (first | refine blk_drewN ?_ _ | refine blk_drew ?_ | refine blk_alloc ?_ _)); refine blk_put (cs := #[.int .i64 a1_0, .int .i64 0, .int .i64 0, .int .i64 0, .int .i64 0, .int .i64 0, .int .i64 0]) ?_ 1 _ rfl; (with_reducible repeat (first | refine blk_drewN ?_ _ | refine blk_drew ?_ | refine blk_alloc ?_ _)); refine blk_put (cs := #[.int .i64 0, .int .i64 0, .int .i64 0, .int .i64 0, .int .i64 0, .int .i64 0, .int .i64 0]) ?_ 0 _ rfl; (with_reducible repeat (first | refine blk_drewN ?_ _ | refine blk_drew ?_ | refine blk_alloc ?_ _)); refine blk_far ?_ NB325_324.out _; (with_reducible repeat (first | refine blk_drewN ?_ _ | refine blk_drew ?_ | refine blk_alloc ?_ _)); refine blk_far ?_ NB325_324.out _; (with_reducible repeat (first | refine blk_drewN ?_ _ | refine blk_drew ?_ | refine blk_alloc ?_ _)); refine blk_far ?_ NB325_324.out _; (with_reducible repeat (first | refine blk_drewN ?_ _ | refine blk_drew ?_ | refine blk_alloc ?_ _)); exact BK325.out⟩
    have n4_ : Aside0 (Below w.heap.size w ((((((((((w38.setCell ⟨gb324, 0, none⟩ (.int .i64 a0_0)).setCell ⟨gb324, 1, none⟩ (.int .i64 a0_1)).setCell ⟨gb324, 2, none⟩ (.int .i64 a0_2)).setCell ⟨gb325, 0, none⟩ (.int .i64 a1_0)).setCell ⟨gb325, 1, none⟩ (.int .i64 a1_1)).setCell ⟨gb325, 2, none⟩ (.int .i64 a1_2)).setCell ⟨gb325, 3, none⟩ (.int .i64 a1_3)).setCell ⟨gb325, 4, none⟩ (.int .i64 a1_4)).setCell ⟨gb325, 5, none⟩ (.int .i64 a1_5)).setCell ⟨gb325, 6, none⟩ (.int .i64 a1_6))) := ⟨by repeat (first | (with_reducible first | exact HB.out | apply below_alloc | apply pw_below_drewN | apply below_drew1 | refine below_set ?_ GE315.out | refine below_set ?_ GE316.out | refine below_set ?_ GE324.out | refine below_set ?_ GE325.out) | exact HB.out)⟩
    (try clear BK315)
    (try clear BK316)
    (try clear BK324)
    (try clear BK325)
    (try clear HB)
    generalize ((((((((((w38.setCell ⟨gb324, 0, none⟩ (.int .i64 a0_0)).setCell ⟨gb324, 1, none⟩ (.int .i64 a0_1)).setCell ⟨gb324, 2, none⟩ (.int .i64 a0_2)).setCell ⟨gb325, 0, none⟩ (.int .i64 a1_0)).setCell ⟨gb325, 1, none⟩ (.int .i64 a1_1)).setCell ⟨gb325, 2, none⟩ (.int .i64 a1_2)).setCell ⟨gb325, 3, none⟩ (.int .i64 a1_3)).setCell ⟨gb325, 4, none⟩ (.int .i64 a1_4)).setCell ⟨gb325, 5, none⟩ (.int .i64 a1_5)).setCell ⟨gb325, 6, none⟩ (.int .i64 a1_6)) = w49 at n0_ n1_ n2_ n3_ n4_ ⊢
    have BK315 := n0_
    have BK316 := n1_
    have BK324 := n2_
    have BK325 := n3_
    have HB := n4_
    clear n0_ n1_ n2_ n3_ n4_
    have n0_ := Aside0.mk (blk_drew BK315.out)
    have n1_ := Aside0.mk (blk_drew BK316.out)
    have n2_ := Aside0.mk (blk_drew BK324.out)
    have n3_ := Aside0.mk (blk_drew BK325.out)
    have n4_ := Aside0.mk (below_drew1 HB.out)
    clear BK315
    clear BK316
    clear BK324
    clear BK325
    clear HB
    have BK315 := n0_
    have BK316 := n1_
    have BK324 := n2_
    have BK325 := n3_
    have HB := n4_
    clear n0_ n1_ n2_ n3_ n4_
    refine start_ (n := 19) (S := fun w' => w'.cell? ⟨gb315, 0, none⟩ = some (.int .i64 a0_0) ∧ w'.cell? ⟨gb315, 1, none⟩ = some (.int .i64 a0_1) ∧ w'.cell? ⟨gb315, 2, none⟩ = some (.int .i64 a0_2) ∧ w'.cell? ⟨gb316, 0, none⟩ = some (.int .i64 a1_0) ∧ w'.cell? ⟨gb316, 1, none⟩ = some (.int .i64 a1_1) ∧ w'.cell? ⟨gb316, 2, none⟩ = some (.int .i64 a1_2) ∧ w'.cell? ⟨gb316, 3, none⟩ = some (.int .i64 a1_3) ∧ w'.cell? ⟨gb316, 4, none⟩ = some (.int .i64 a1_4) ∧ w'.cell? ⟨gb316, 5, none⟩ = some (.int .i64 a1_5) ∧ w'.cell? ⟨gb316, 6, none⟩ = some (.int .i64 a1_6)) (ds := []) #[false, false, false, false, false, false, false, false, false, false, false, false, false, false, false, false, false, false, false] (by kernel_rfl) rfl rfl ⟨(blk_cell BK315.out 0).trans rfl, (blk_cell BK315.out 1).trans rfl, (blk_cell BK315.out 2).trans rfl, (blk_cell BK316.out 0).trans rfl, (blk_cell BK316.out 1).trans rfl, (blk_cell BK316.out 2).trans rfl, (blk_cell BK316.out 3).trans rfl, (blk_cell BK316.out 4).trans rfl, (blk_cell BK316.out 5).trans rfl, (blk_cell BK316.out 6).trans rfl⟩ (fun hHeld => ?_); refine with_tabW swarflaw33_InterpolateMirrored.tab4 swarflaw33_InterpolateMirrored.bits4 (fun HT_ HW_ => ?_)
    generalize w49.drew = w50 at BK315 BK316 BK324 BK325 HB hHeld ⊢
    refine pure_ (i := 0) (N := some 30) (v := ?_) (a' := ?_) #[true, false, false, false, false, false, false, false, false, false, false, false, false, false, false, false, false, false, false] rfl rfl (any_of HT_.out (by kernel_rfl)) (fun _ _ _ h => h) (Or.inl ⟨by rfl, ?_⟩) ?_ ?_
    rotate_left
    ·intro w'
     go_simp
     with_reducible rfl
    rotate_left
    ·simp only [Act.put, List.setIfInBounds_toArray, List.set_cons_zero, List.set_cons_succ, i64_w, i32_w]
     rfl
    refine pure_ (i := 3) (N := some 33) (v := ?_) (a' := ?_) #[true, false, false, true, false, false, false, false, false, false, false, false, false, false, false, false, false, false, false] rfl rfl (any_of HT_.out (by kernel_rfl)) (fun _ _ _ h => h) (Or.inl ⟨by rfl, ?_⟩) ?_ ?_
    rotate_left
    ·intro w'
     go_simp
     with_reducible rfl
    rotate_left
    ·simp only [Act.put, List.setIfInBounds_toArray, List.set_cons_zero, List.set_cons_succ, i64_w, i32_w]
     rfl
    refine pure_ (i := 4) (N := some 34) (v := ?_) (a' := ?_) #[true, false, false, true, true, false, false, false, false, false, false, false, false, false, false, false, false, false, false] rfl rfl (any_of HT_.out (by kernel_rfl)) (fun _ _ _ h => h) (Or.inl ⟨by rfl, ?_⟩) ?_ ?_
    rotate_left
    ·intro w'
     go_simp
     with_reducible rfl
    rotate_left
    ·simp only [Act.put, List.setIfInBounds_toArray, List.set_cons_zero, List.set_cons_succ, i64_w, i32_w]
     rfl
    refine pure_ (i := 7) (N := some 37) (v := ?_) (a' := ?_) #[true, false, false, true, true, false, false, true, false, false, false, false, false, false, false, false, false, false, false] rfl rfl (any_of HT_.out (by kernel_rfl)) (fun _ _ _ h => h) (Or.inl ⟨by rfl, ?_⟩) ?_ ?_
    rotate_left
    ·intro w'
     go_simp
     with_reducible rfl
    rotate_left
    ·simp only [Act.put, List.setIfInBounds_toArray, List.set_cons_zero, List.set_cons_succ, i64_w, i32_w]
     rfl
    refine pure_ (i := 8) (N := some 38) (v := ?_) (a' := ?_) #[true, false, false, true, true, false, false, true, true, false, false, false, false, false, false, false, false, false, false] rfl rfl (any_of HT_.out (by kernel_rfl)) (fun _ _ _ h => h) (Or.inl ⟨by rfl, ?_⟩) ?_ ?_
    rotate_left
    ·intro w'
     go_simp
     with_reducible rfl
    rotate_left
    ·simp only [Act.put, List.setIfInBounds_toArray, List.set_cons_zero, List.set_cons_succ, i64_w, i32_w]
     rfl
    refine take_ (i := 1) (N := some 31) (v := ?_) (a' := ?_) #[true, true, false, true, true, false, false, true, true, false, false, false, false, false, false, false, false, false, false] rfl rfl (take_ofW HT_.out HW_.out (by kernel_rfl)) (fun _ _ _ h => h) (Or.inl ⟨by rfl, ?_⟩) hHeld ?_ ?_
    rotate_left
    ·rintro w' ⟨s0, s1, s2, s3, s4, s5, s6, s7, s8, s9⟩
     go_simp
     with_reducible rfl
    rotate_left
    ·simp only [Act.put, List.setIfInBounds_toArray, List.set_cons_zero, List.set_cons_succ, i64_w, i32_w]
     rfl
    refine pure_ (i := 2) (N := some 32) (v := ?_) (a' := ?_) #[true, true, true, true, true, false, false, true, true, false, false, false, false, false, false, false, false, false, false] rfl rfl (any_of HT_.out (by kernel_rfl)) (fun _ _ _ h => h) (Or.inl ⟨by rfl, ?_⟩) ?_ ?_
    rotate_left
    ·intro w'
     go_simp
     with_reducible rfl
    rotate_left
    ·simp only [Act.put, List.setIfInBounds_toArray, List.set_cons_zero, List.set_cons_succ, i64_w, i32_w]
     rfl
    refine pure_ (i := 11) (N := some 41) (v := ?_) (a' := ?_) #[true, true, true, true, true, false, false, true, true, false, false, true, false, false, false, false, false, false, false] rfl rfl (any_of HT_.out (by kernel_rfl)) (fun _ _ _ h => h) (Or.inl ⟨by rfl, ?_⟩) ?_ ?_
    rotate_left
    ·intro w'
     go_simp
     with_reducible rfl
    rotate_left
    ·simp only [Act.put, List.setIfInBounds_toArray, List.set_cons_zero, List.set_cons_succ, i64_w, i32_w]
     rfl
    refine take_ (i := 5) (N := some 35) (v := ?_) (a' := ?_) #[true, true, true, true, true, true, false, true, true, false, false, true, false, false, false, false, false, false, false] rfl rfl (take_ofW HT_.out HW_.out (by kernel_rfl)) (fun _ _ _ h => h) (Or.inl ⟨by rfl, ?_⟩) hHeld ?_ ?_
    rotate_left
    ·rintro w' ⟨s0, s1, s2, s3, s4, s5, s6, s7, s8, s9⟩
     go_simp
     with_reducible rfl
    rotate_left
    ·simp only [Act.put, List.setIfInBounds_toArray, List.set_cons_zero, List.set_cons_succ, i64_w, i32_w]
     rfl
    refine pure_ (i := 6) (N := some 36) (v := ?_) (a' := ?_) #[true, true, true, true, true, true, true, true, true, false, false, true, false, false, false, false, false, false, false] rfl rfl (any_of HT_.out (by kernel_rfl)) (fun _ _ _ h => h) (Or.inl ⟨by rfl, ?_⟩) ?_ ?_
    rotate_left
    ·intro w'
     go_simp
     with_reducible rfl
    rotate_left
    ·simp only [Act.put, List.setIfInBounds_toArray, List.set_cons_zero, List.set_cons_succ, i64_w, i32_w]
     rfl
    refine take_ (i := 9) (N := some 39) (v := ?_) (a' := ?_) #[true, true, true, true, true, true, true, true, true, true, false, true, false, false, false, false, false, false, false] rfl rfl (take_ofW HT_.out HW_.out (by kernel_rfl)) (fun _ _ _ h => h) (Or.inl ⟨by rfl, ?_⟩) hHeld ?_ ?_
    rotate_left
    ·rintro w' ⟨s0, s1, s2, s3, s4, s5, s6, s7, s8, s9⟩
     go_simp
     with_reducible rfl
    rotate_left
    ·simp only [Act.put, List.setIfInBounds_toArray, List.set_cons_zero, List.set_cons_succ, i64_w, i32_w]
     rfl
    refine pure_ (i := 10) (N := some 40) (v := ?_) (a' := ?_) #[true, true, true, true, true, true, true, true, true, true, true, true, false, false, false, false, false, false, false] rfl rfl (any_of HT_.out (by kernel_rfl)) (fun _ _ _ h => h) (Or.inl ⟨by rfl, ?_⟩) ?_ ?_
    rotate_left
    ·intro w'
     go_simp
     with_reducible rfl
    rotate_left
    ·simp only [Act.put, List.setIfInBounds_toArray, List.set_cons_zero, List.set_cons_succ, i64_w, i32_w]
     rfl
    refine one_ (i := 12) (N := none) #[true, true, true, true, true, true, true, true, true, true, true, true, true, false, false, false, false, false, false] rfl rfl (one_of HT_.out (by kernel_rfl)) (by decide) (fun K hK => ?_)
    have hs51 : w50.cell? ⟨gb324, 1, none⟩ = some (.int .i64 a0_1) := (blk_cell BK324.out 1).trans rfl
    have hfs51 := blk_frozen BK324.out 1
    have hns51_0 := NB315_324.out
    have hns51_1 := NB316_324.out
    have hns51_3 := NB325_324.out
    have hms51_0 := NB324_315.out
    have hms51_1 := NB324_316.out
    have hms51_3 := NB324_325.out
    refine skip_ (w1 := ?_) (by rfl) rfl ?_ ?_
    rotate_left
    ·go_simp
     rfl
    refine hK.out _ _ ⟨((cell_far (p := ⟨gb324, _, none⟩) NB315_324.out _).trans (hHeld.1)), ((cell_far (p := ⟨gb324, _, none⟩) NB315_324.out _).trans (hHeld.2.1)), ((cell_far (p := ⟨gb324, _, none⟩) NB315_324.out _).trans (hHeld.2.2.1)), ((cell_far (p := ⟨gb324, _, none⟩) NB316_324.out _).trans (hHeld.2.2.2.1)), ((cell_far (p := ⟨gb324, _, none⟩) NB316_324.out _).trans (hHeld.2.2.2.2.1)), ((cell_far (p := ⟨gb324, _, none⟩) NB316_324.out _).trans (hHeld.2.2.2.2.2.1)), ((cell_far (p := ⟨gb324, _, none⟩) NB316_324.out _).trans (hHeld.2.2.2.2.2.2.1)), ((cell_far (p := ⟨gb324, _, none⟩) NB316_324.out _).trans (hHeld.2.2.2.2.2.2.2.1)), ((cell_far (p := ⟨gb324, _, none⟩) NB316_324.out _).trans (hHeld.2.2.2.2.2.2.2.2.1)), ((cell_far (p := ⟨gb324, _, none⟩) NB316_324.out _).trans (hHeld.2.2.2.2.2.2.2.2.2))⟩ (fun hHeld => ?_)
    clear hK K
    refine pure_ (i := 13) (N := some 42) (v := ?_) (a' := ?_) #[true, true, true, true, true, true, true, true, true, true, true, true, true, true, false, false, false, false, false] rfl rfl (any_of HT_.out (by kernel_rfl)) (fun _ _ _ h => h) (Or.inl ⟨by rfl, ?_⟩) ?_ ?_
    rotate_left
    ·intro w'
     go_simp
     with_reducible rfl
    rotate_left
    ·simp only [Act.put, List.setIfInBounds_toArray, List.set_cons_zero, List.set_cons_succ, i64_w, i32_w]
     rfl
    refine pure_ (i := 14) (N := some 43) (v := ?_) (a' := ?_) #[true, true, true, true, true, true, true, true, true, true, true, true, true, true, true, false, false, false, false] rfl rfl (any_of HT_.out (by kernel_rfl)) (fun _ _ _ h => h) (Or.inl ⟨by rfl, ?_⟩) ?_ ?_
    rotate_left
    ·intro w'
     go_simp
     with_reducible rfl
    rotate_left
    ·simp only [Act.put, List.setIfInBounds_toArray, List.set_cons_zero, List.set_cons_succ, i64_w, i32_w]
     rfl
    refine one_ (i := 15) (N := none) #[true, true, true, true, true, true, true, true, true, true, true, true, true, true, true, true, false, false, false] rfl rfl (one_of HT_.out (by kernel_rfl)) (by decide) (fun K hK => ?_)
    have hs52 : w50.cell? ⟨gb325, 2, none⟩ = some (.int .i64 a1_2) := (blk_cell BK325.out 2).trans rfl
    have hfs52 := blk_frozen BK325.out 2
    have hns52_0 := NB315_325.out
    have hns52_1 := NB316_325.out
    have hns52_2 := NB324_325.out
    have hms52_0 := NB325_315.out
    have hms52_1 := NB325_316.out
    have hms52_2 := NB325_324.out
    refine skip_ (w1 := ?_) (by rfl) rfl ?_ ?_
    rotate_left
    ·go_simp
     rfl
    refine hK.out _ _ ⟨((cell_far (p := ⟨gb325, _, none⟩) NB315_325.out _).trans (hHeld.1)), ((cell_far (p := ⟨gb325, _, none⟩) NB315_325.out _).trans (hHeld.2.1)), ((cell_far (p := ⟨gb325, _, none⟩) NB315_325.out _).trans (hHeld.2.2.1)), ((cell_far (p := ⟨gb325, _, none⟩) NB316_325.out _).trans (hHeld.2.2.2.1)), ((cell_far (p := ⟨gb325, _, none⟩) NB316_325.out _).trans (hHeld.2.2.2.2.1)), ((cell_far (p := ⟨gb325, _, none⟩) NB316_325.out _).trans (hHeld.2.2.2.2.2.1)), ((cell_far (p := ⟨gb325, _, none⟩) NB316_325.out _).trans (hHeld.2.2.2.2.2.2.1)), ((cell_far (p := ⟨gb325, _, none⟩) NB316_325.out _).trans (hHeld.2.2.2.2.2.2.2.1)), ((cell_far (p := ⟨gb325, _, none⟩) NB316_325.out _).trans (hHeld.2.2.2.2.2.2.2.2.1)), ((cell_far (p := ⟨gb325, _, none⟩) NB316_325.out _).trans (hHeld.2.2.2.2.2.2.2.2.2))⟩ (fun hHeld => ?_)
    clear hK K
    refine pure_ (i := 16) (N := some 44) (v := ?_) (a' := ?_) #[true, true, true, true, true, true, true, true, true, true, true, true, true, true, true, true, true, false, false] rfl rfl (any_of HT_.out (by kernel_rfl)) (fun _ _ _ h => h) (Or.inl ⟨by rfl, ?_⟩) ?_ ?_
    rotate_left
    ·intro w'
     go_simp
     with_reducible rfl
    rotate_left
    ·simp only [Act.put, List.setIfInBounds_toArray, List.set_cons_zero, List.set_cons_succ, i64_w, i32_w]
     rfl
    refine pure_ (i := 17) (N := some 45) (v := ?_) (a' := ?_) #[true, true, true, true, true, true, true, true, true, true, true, true, true, true, true, true, true, true, false] rfl rfl (any_of HT_.out (by kernel_rfl)) (fun _ _ _ h => h) (Or.inl ⟨by rfl, ?_⟩) ?_ ?_
    rotate_left
    ·intro w'
     go_simp
     with_reducible rfl
    rotate_left
    ·simp only [Act.put, List.setIfInBounds_toArray, List.set_cons_zero, List.set_cons_succ, i64_w, i32_w]
     rfl
    refine one_ (i := 18) (N := none) #[true, true, true, true, true, true, true, true, true, true, true, true, true, true, true, true, true, true, true] rfl rfl (one_of HT_.out (by kernel_rfl)) (by decide) (fun K hK => ?_)
    have hs53 : w50.cell? ⟨gb325, 5, none⟩ = some (.int .i64 a1_5) := (blk_cell BK325.out 5).trans rfl
    have hfs53 := blk_frozen BK325.out 5
    have hns53_0 := NB315_325.out
    have hns53_1 := NB316_325.out
    have hns53_2 := NB324_325.out
    have hms53_0 := NB325_315.out
    have hms53_1 := NB325_316.out
    have hms53_2 := NB325_324.out
    refine skip_ (w1 := ?_) (by rfl) rfl ?_ ?_
    rotate_left
    ·go_simp
     rfl
    refine hK.out _ _ ⟨((cell_far (p := ⟨gb325, _, none⟩) NB315_325.out _).trans (hHeld.1)), ((cell_far (p := ⟨gb325, _, none⟩) NB315_325.out _).trans (hHeld.2.1)), ((cell_far (p := ⟨gb325, _, none⟩) NB315_325.out _).trans (hHeld.2.2.1)), ((cell_far (p := ⟨gb325, _, none⟩) NB316_325.out _).trans (hHeld.2.2.2.1)), ((cell_far (p := ⟨gb325, _, none⟩) NB316_325.out _).trans (hHeld.2.2.2.2.1)), ((cell_far (p := ⟨gb325, _, none⟩) NB316_325.out _).trans (hHeld.2.2.2.2.2.1)), ((cell_far (p := ⟨gb325, _, none⟩) NB316_325.out _).trans (hHeld.2.2.2.2.2.2.1)), ((cell_far (p := ⟨gb325, _, none⟩) NB316_325.out _).trans (hHeld.2.2.2.2.2.2.2.1)), ((cell_far (p := ⟨gb325, _, none⟩) NB316_325.out _).trans (hHeld.2.2.2.2.2.2.2.2.1)), ((cell_far (p := ⟨gb325, _, none⟩) NB316_325.out _).trans (hHeld.2.2.2.2.2.2.2.2.2))⟩ (fun hHeld => ?_)
    clear hK K
    refine done_ (done_of HT_.out (by kernel_rfl)) ?_
    have hnb54 := NB316_315.out
    have hnc54 := NB315_316.out
    have hnb55 := NB316_324.out
    have hnc55 := NB324_316.out
    have hnb56 := NB316_325.out
    have hnc56 := NB325_316.out
    have hcz57_0 : w50.cell? ⟨gb316, 0, none⟩ = some (.int .i64 a1_0) := (blk_cell BK316.out 0).trans rfl
    have hcz57_1 : w50.cell? ⟨gb316, 1, none⟩ = some (.int .i64 a1_1) := (blk_cell BK316.out 1).trans rfl
    have hcz57_2 : w50.cell? ⟨gb316, 2, none⟩ = some (.int .i64 a1_2) := (blk_cell BK316.out 2).trans rfl
    have hcz57_3 : w50.cell? ⟨gb316, 3, none⟩ = some (.int .i64 a1_3) := (blk_cell BK316.out 3).trans rfl
    have hcz57_4 : w50.cell? ⟨gb316, 4, none⟩ = some (.int .i64 a1_4) := (blk_cell BK316.out 4).trans rfl
    have hcz57_5 : w50.cell? ⟨gb316, 5, none⟩ = some (.int .i64 a1_5) := (blk_cell BK316.out 5).trans rfl
    have hcz57_6 : w50.cell? ⟨gb316, 6, none⟩ = some (.int .i64 a1_6) := (blk_cell BK316.out 6).trans rfl
    have hfz57_0 := blk_frozen BK316.out 0
    have hfz57_1 := blk_frozen BK316.out 1
    have hfz57_2 := blk_frozen BK316.out 2
    have hfz57_3 := blk_frozen BK316.out 3
    have hfz57_4 := blk_frozen BK316.out 4
    have hfz57_5 := blk_frozen BK316.out 5
    have hfz57_6 := blk_frozen BK316.out 6
    go_upto_block 0 with (fail)
    go_cut [] (fun wc => ∃ (kq : Nat) (x326000_33 : Int), Aside0 (swarflaw33_InterpolateMirrored.j1 kq a0_0 a0_1 a0_2 a1_0 a1_1 a1_2 a1_3 a1_4 a1_5 a1_6 a0_0 (wrap64 (-a0_1)) a0_2 x326000_33 a1_1 (wrap64 (-a1_2)) a1_3 a1_4 (wrap64 (-a1_5)) a1_6 = some r) ∧ Aside0 (kq ≤ kj2) ∧ Aside0 (wc.heap[gb315]? = some (.cells #[.int .i64 a0_0, .int .i64 a0_1, .int .i64 a0_2] 23 (0, 0))) ∧ Aside0 (wc.heap[gb316]? = some (.cells #[.int .i64 a1_0, .int .i64 a1_1, .int .i64 a1_2, .int .i64 a1_3, .int .i64 a1_4, .int .i64 a1_5, .int .i64 a1_6] 27 (0, 0))) ∧ Aside0 (wc.heap[gb324]? = some (.cells #[.int .i64 a0_0, .int .i64 (wrap64 (-a0_1)), .int .i64 a0_2] 23 (0, 0))) ∧ Aside0 (wc.heap[gb325]? = some (.cells #[.int .i64 x326000_33, .int .i64 a1_1, .int .i64 (wrap64 (-a1_2)), .int .i64 a1_3, .int .i64 a1_4, .int .i64 (wrap64 (-a1_5)), .int .i64 a1_6] 27 (0, 0))) ∧ Aside0 (Below w.heap.size w wc))
    case first =>
     have H := HC34.out
     clear HC34
     by_cases c58 : a1_0 = 3
     ·rw [if_pos c58] at H
      have c58b0 : (a1_0 == 3) = true := beq_iff_eq.mpr c58
      have c58b1 : (a1_0 != 3) = false := bne_eq_false_iff_eq.mpr c58
      clear c58
      (first | rw [c58b0] | (simp only [i64_w, i32_w]; rw [c58b0]) | skip)
      have H' := Aside0.mk H
      clear H
      have hnb59 := NB325_315.out
      have hnc59 := NB315_325.out
      have hnb60 := NB325_316.out
      have hnc60 := NB316_325.out
      have hnb61 := NB325_324.out
      have hnc61 := NB324_325.out
      have hcz62_0 : w50.cell? ⟨gb325, 0, none⟩ = some (.int .i64 a1_0) := (blk_cell BK325.out 0).trans rfl
      have hcz62_1 : w50.cell? ⟨gb325, 1, none⟩ = some (.int .i64 a1_1) := (blk_cell BK325.out 1).trans rfl
      have hcz62_2 : w50.cell? ⟨gb325, 2, none⟩ = some (.int .i64 a1_2) := (blk_cell BK325.out 2).trans rfl
      have hcz62_3 : w50.cell? ⟨gb325, 3, none⟩ = some (.int .i64 a1_3) := (blk_cell BK325.out 3).trans rfl
      have hcz62_4 : w50.cell? ⟨gb325, 4, none⟩ = some (.int .i64 a1_4) := (blk_cell BK325.out 4).trans rfl
      have hcz62_5 : w50.cell? ⟨gb325, 5, none⟩ = some (.int .i64 a1_5) := (blk_cell BK325.out 5).trans rfl
      have hcz62_6 : w50.cell? ⟨gb325, 6, none⟩ = some (.int .i64 a1_6) := (blk_cell BK325.out 6).trans rfl
      have hfz62_0 := blk_frozen BK325.out 0
      have hfz62_1 := blk_frozen BK325.out 1
      have hfz62_2 := blk_frozen BK325.out 2
      have hfz62_3 := blk_frozen BK325.out 3
      have hfz62_4 := blk_frozen BK325.out 4
      have hfz62_5 := blk_frozen BK325.out 5
      have hfz62_6 := blk_frozen BK325.out 6
      go_wp2
      go_meet
      case rel => exact ⟨_, (4), H', ⟨by have := HJ2.out; first | omega | exact Nat.le_refl _⟩, ⟨by (with_reducible repeat (first | refine blk_drewN ?_ _ | refine blk_drew ?_ | refine blk_alloc ?_ _)); refine blk_far ?_ NB315_325.out _; (with_reducible repeat (first | refine blk_drewN ?_ _ | refine blk_drew ?_ | refine blk_alloc ?_ _)); refine blk_far ?_ NB315_325.out _; (with_reducible repeat (first | refine blk_drewN ?_ _ | refine blk_drew ?_ | refine blk_alloc ?_ _)); refine blk_far ?_ NB315_325.out _; (with_reducible repeat (first | refine blk_drewN ?_ _ | refine blk_drew ?_ | refine blk_alloc ?_ _)); refine blk_far ?_ NB315_324.out _; (with_reducible repeat (first | refine blk_drewN ?_ _ | refine blk_drew ?_ | refine blk_alloc ?_ _)); exact BK315.out⟩, ⟨by (with_reducible repeat (first | refine blk_drewN ?_ _ | refine blk_drew ?_ | refine blk_alloc ?_ _)); refine blk_far ?_ NB316_325.out _; (with_reducible repeat (first | refine blk_drewN ?_ _ | refine blk_drew ?_ | refine blk_alloc ?_ _)); refine blk_far ?_ NB316_325.out _; (with_reducible repeat (first | refine blk_drewN ?_ _ | refine blk_drew ?_ | refine blk_alloc ?_ _)); refine blk_far ?_ NB316_325.out _; (with_reducible repeat (first | refine blk_drewN ?_ _ | refine blk_drew ?_ | refine blk_alloc ?_ _)); refine blk_far ?_ NB316_324.out _; (with_reducible repeat (first | refine blk_drewN ?_ _ | refine blk_drew ?_ | refine blk_alloc ?_ _)); exact BK316.out⟩, ⟨by (with_reducible repeat (first | refine blk_drewN ?_ _ | refine blk_drew ?_ | refine blk_alloc ?_ _)); refine blk_far ?_ NB324_325.out _; (with_reducible repeat (first | refine blk_drewN ?_ _ | refine blk_drew ?_ | refine blk_alloc ?_ _)); refine blk_far ?_ NB324_325.out _; (with_reducible repeat (first | refine blk_drewN ?_ _ | refine blk_drew ?_ | refine blk_alloc ?_ _)); refine blk_far ?_ NB324_325.out _; (with_reducible repeat (first | refine blk_drewN ?_ _ | refine blk_drew ?_ | refine blk_alloc ?_ _)); refine blk_put (cs := #[.int .i64 a0_0, .int .i64 a0_1, .int .i64 a0_2]) ?_ 1 _ rfl; (with_reducible repeat (first | refine blk_drewN ?_ _ | refine blk_drew ?_ | refine blk_alloc ?_ _)); exact BK324.out⟩, ⟨by (with_reducible repeat (first | refine blk_drewN ?_ _ | refine blk_drew ?_ | refine blk_alloc ?_ _)); refine blk_put (cs := #[.int .i64 a1_0, .int .i64 a1_1, .int .i64 (wrap64 (-a1_2)), .int .i64 a1_3, .int .i64 a1_4, .int .i64 (wrap64 (-a1_5)), .int .i64 a1_6]) ?_ 0 _ rfl; (with_reducible repeat (first | refine blk_drewN ?_ _ | refine blk_drew ?_ | refine blk_alloc ?_ _)); refine blk_put (cs := #[.int .i64 a1_0, .int .i64 a1_1, .int .i64 (wrap64 (-a1_2)), .int .i64 a1_3, .int .i64 a1_4, .int .i64 a1_5, .int .i64 a1_6]) ?_ 5 _ rfl; (with_reducible repeat (first | refine blk_drewN ?_ _ | refine blk_drew ?_ | refine blk_alloc ?_ _)); refine blk_put (cs := #[.int .i64 a1_0, .int .i64 a1_1, .int .i64 a1_2, .int .i64 a1_3, .int .i64 a1_4, .int .i64 a1_5, .int .i64 a1_6]) ?_ 2 _ rfl; (with_reducible repeat (first | refine blk_drewN ?_ _ | refine blk_drew ?_ | refine blk_alloc ?_ _)); refine blk_far ?_ NB325_324.out _; (with_reducible repeat (first | refine blk_drewN ?_ _ | refine blk_drew ?_ | refine blk_alloc ?_ _)); exact BK325.out⟩, ⟨by repeat (first | (with_reducible first | exact HB.out | apply below_alloc | apply pw_below_drewN | apply below_drew1 | refine below_set ?_ GE315.out | refine below_set ?_ GE316.out | refine below_set ?_ GE324.out | refine below_set ?_ GE325.out) | exact HB.out)⟩⟩
     ·rw [if_neg c58] at H
      have c58b0 : (a1_0 == 3) = false := beq_eq_false_iff_ne.mpr c58
      have c58b1 : (a1_0 != 3) = true := bne_iff_ne.mpr c58
      (first | rw [c58b0] | (simp only [i64_w, i32_w]; rw [c58b0]) | skip)
      by_cases c63 : a1_0 = 4
      ·rw [if_pos c63] at H
       have c63b0 : (a1_0 == 4) = true := beq_iff_eq.mpr c63
       have c63b1 : (a1_0 != 4) = false := bne_eq_false_iff_eq.mpr c63
       clear c63
       have H' := Aside0.mk H
       clear H
       have hnb64 := NB325_315.out
       have hnc64 := NB315_325.out
       have hnb65 := NB325_316.out
       have hnc65 := NB316_325.out
       have hnb66 := NB325_324.out
       have hnc66 := NB324_325.out
       have hcz67_0 : w50.cell? ⟨gb325, 0, none⟩ = some (.int .i64 a1_0) := (blk_cell BK325.out 0).trans rfl
       have hcz67_1 : w50.cell? ⟨gb325, 1, none⟩ = some (.int .i64 a1_1) := (blk_cell BK325.out 1).trans rfl
       have hcz67_2 : w50.cell? ⟨gb325, 2, none⟩ = some (.int .i64 a1_2) := (blk_cell BK325.out 2).trans rfl
       have hcz67_3 : w50.cell? ⟨gb325, 3, none⟩ = some (.int .i64 a1_3) := (blk_cell BK325.out 3).trans rfl
       have hcz67_4 : w50.cell? ⟨gb325, 4, none⟩ = some (.int .i64 a1_4) := (blk_cell BK325.out 4).trans rfl
       have hcz67_5 : w50.cell? ⟨gb325, 5, none⟩ = some (.int .i64 a1_5) := (blk_cell BK325.out 5).trans rfl
       have hcz67_6 : w50.cell? ⟨gb325, 6, none⟩ = some (.int .i64 a1_6) := (blk_cell BK325.out 6).trans rfl
       have hfz67_0 := blk_frozen BK325.out 0
       have hfz67_1 := blk_frozen BK325.out 1
       have hfz67_2 := blk_frozen BK325.out 2
       have hfz67_3 := blk_frozen BK325.out 3
       have hfz67_4 := blk_frozen BK325.out 4
       have hfz67_5 := blk_frozen BK325.out 5
       have hfz67_6 := blk_frozen BK325.out 6
       go_wp2
       go_meet
       case rel => exact ⟨_, (3), H', ⟨by have := HJ2.out; first | omega | exact Nat.le_refl _⟩, ⟨by (with_reducible repeat (first | refine blk_drewN ?_ _ | refine blk_drew ?_ | refine blk_alloc ?_ _)); refine blk_far ?_ NB315_325.out _; (with_reducible repeat (first | refine blk_drewN ?_ _ | refine blk_drew ?_ | refine blk_alloc ?_ _)); refine blk_far ?_ NB315_325.out _; (with_reducible repeat (first | refine blk_drewN ?_ _ | refine blk_drew ?_ | refine blk_alloc ?_ _)); refine blk_far ?_ NB315_325.out _; (with_reducible repeat (first | refine blk_drewN ?_ _ | refine blk_drew ?_ | refine blk_alloc ?_ _)); refine blk_far ?_ NB315_324.out _; (with_reducible repeat (first | refine blk_drewN ?_ _ | refine blk_drew ?_ | refine blk_alloc ?_ _)); exact BK315.out⟩, ⟨by (with_reducible repeat (first | refine blk_drewN ?_ _ | refine blk_drew ?_ | refine blk_alloc ?_ _)); refine blk_far ?_ NB316_325.out _; (with_reducible repeat (first | refine blk_drewN ?_ _ | refine blk_drew ?_ | refine blk_alloc ?_ _)); refine blk_far ?_ NB316_325.out _; (with_reducible repeat (first | refine blk_drewN ?_ _ | refine blk_drew ?_ | refine blk_alloc ?_ _)); refine blk_far ?_ NB316_325.out _; (with_reducible repeat (first | refine blk_drewN ?_ _ | refine blk_drew ?_ | refine blk_alloc ?_ _)); refine blk_far ?_ NB316_324.out _; (with_reducible repeat (first | refine blk_drewN ?_ _ | refine blk_drew ?_ | refine blk_alloc ?_ _)); exact BK316.out⟩, ⟨by (with_reducible repeat (first | refine blk_drewN ?_ _ | refine blk_drew ?_ | refine blk_alloc ?_ _)); refine blk_far ?_ NB324_325.out _; (with_reducible repeat (first | refine blk_drewN ?_ _ | refine blk_drew ?_ | refine blk_alloc ?_ _)); refine blk_far ?_ NB324_325.out _; (with_reducible repeat (first | refine blk_drewN ?_ _ | refine blk_drew ?_ | refine blk_alloc ?_ _)); refine blk_far ?_ NB324_325.out _; (with_reducible repeat (first | refine blk_drewN ?_ _ | refine blk_drew ?_ | refine blk_alloc ?_ _)); refine blk_put (cs := #[.int .i64 a0_0, .int .i64 a0_1, .int .i64 a0_2]) ?_ 1 _ rfl; (with_reducible repeat (first | refine blk_drewN ?_ _ | refine blk_drew ?_ | refine blk_alloc ?_ _)); exact BK324.out⟩, ⟨by (with_reducible repeat (first | refine blk_drewN ?_ _ | refine blk_drew ?_ | refine blk_alloc ?_ _)); refine blk_put (cs := #[.int .i64 a1_0, .int .i64 a1_1, .int .i64 (wrap64 (-a1_2)), .int .i64 a1_3, .int .i64 a1_4, .int .i64 (wrap64 (-a1_5)), .int .i64 a1_6]) ?_ 0 _ rfl; (with_reducible repeat (first | refine blk_drewN ?_ _ | refine blk_drew ?_ | refine blk_alloc ?_ _)); refine blk_put (cs := #[.int .i64 a1_0, .int .i64 a1_1, .int .i64 (wrap64 (-a1_2)), .int .i64 a1_3, .int .i64 a1_4, .int .i64 a1_5, .int .i64 a1_6]) ?_ 5 _ rfl; (with_reducible repeat (first | refine blk_drewN ?_ _ | refine blk_drew ?_ | refine blk_alloc ?_ _)); refine blk_put (cs := #[.int .i64 a1_0, .int .i64 a1_1, .int .i64 a1_2, .int .i64 a1_3, .int .i64 a1_4, .int .i64 a1_5, .int .i64 a1_6]) ?_ 2 _ rfl; (with_reducible repeat (first | refine blk_drewN ?_ _ | refine blk_drew ?_ | refine blk_alloc ?_ _)); refine blk_far ?_ NB325_324.out _; (with_reducible repeat (first | refine blk_drewN ?_ _ | refine blk_drew ?_ | refine blk_alloc ?_ _)); exact BK325.out⟩, ⟨by repeat (first | (with_reducible first | exact HB.out | apply below_alloc | apply pw_below_drewN | apply below_drew1 | refine below_set ?_ GE315.out | refine below_set ?_ GE316.out | refine below_set ?_ GE324.out | refine below_set ?_ GE325.out) | exact HB.out)⟩⟩
      ·rw [if_neg c63] at H
       have c63b0 : (a1_0 == 4) = false := beq_eq_false_iff_ne.mpr c63
       have c63b1 : (a1_0 != 4) = true := bne_iff_ne.mpr c63
       obtain rfl := Option.some.inj H
       go_wp2
       go_ret
       exact ⟨by first | rfl | (simp [errW_none, errW_some] <;> rfl) | (simp [*, errW_none, errW_some] <;> rfl), by repeat (first | (with_reducible first | exact HB.out | apply below_alloc | apply pw_below_drewN | apply below_drew1 | refine below_set ?_ GE315.out | refine below_set ?_ GE316.out | refine below_set ?_ GE324.out | refine below_set ?_ GE325.out) | exact HB.out)⟩
    case rest =>
     clear HC34
     try clear p2
     try clear c5
     try clear c6
     try clear p6
     try clear c54
     try clear c55
     try clear c56
     try clear c58
     try clear c58b0
     try clear c58b1
     try clear c59
     try clear c60
     try clear c61
     try clear c63
     try clear c63b0
     try clear c63b1
     try clear c64
     try clear p64
     try clear c65
     try clear c66
     try clear hcz57_0
     try clear hcz57_1
     try clear hcz57_2
     try clear hcz57_3
     try clear hcz57_4
     try clear hcz57_5
     try clear hcz57_6
     try clear hcz62_0
     try clear hcz62_1
     try clear hcz62_2
     try clear hcz62_3
     try clear hcz62_4
     try clear hcz62_5
     try clear hcz62_6
     try clear hcz67_0
     try clear hcz67_1
     try clear hcz67_2
     try clear hcz67_3
     try clear hcz67_4
     try clear hcz67_5
     try clear hcz67_6
     try clear hfz57_0
     try clear hfz57_1
     try clear hfz57_2
     try clear hfz57_3
     try clear hfz57_4
     try clear hfz57_5
     try clear hfz57_6
     try clear hfz62_0
     try clear hfz62_1
     try clear hfz62_2
     try clear hfz62_3
     try clear hfz62_4
     try clear hfz62_5
     try clear hfz62_6
     try clear hfz67_0
     try clear hfz67_1
     try clear hfz67_2
     try clear hfz67_3
     try clear hfz67_4
     try clear hfz67_5
     try clear hfz67_6
     obtain ⟨kq, x326000_33, HA, HJ33, BK315, BK316, BK324, BK325, HB⟩ := hcut
     cases kq with
     | zero => exact absurd HA.out (by simp [swarflaw33_InterpolateMirrored.j1])
     | succ kj33 =>
      have H := HA.out
      clear HA
      simp only [swarflaw33_InterpolateMirrored.j1] at H
      replace H := Option.bind_eq_some_iff.mp H
      obtain ⟨⟨t326, t329⟩, A680, H⟩ := H
      replace H : ((interpolate_Arc.f kj33 a0_0 (wrap64 (-a0_1)) a0_2 x326000_33 a1_1 (wrap64 (-a1_2)) a1_3 a1_4 (wrap64 (-a1_5)) a1_6).bind fun bt330 => (if t329 = 0 then (if bt330.2 = 0 then (swarflaw33_InterpolateMirrored.j2 kj33 t326 bt330.1 ((t326.length : Int) != (bt330.1.length : Int))) else (swarflaw33_InterpolateMirrored.j2 kj33 t326 bt330.1 true)) else (swarflaw33_InterpolateMirrored.j2 kj33 t326 bt330.1 true))) = some r := H
      have A68 := Aside0.mk A680
      clear A680
      replace H := Option.bind_eq_some_iff.mp H
      obtain ⟨⟨t330, t333⟩, A690, H⟩ := H
      replace H : (if t329 = 0 then (if t333 = 0 then (swarflaw33_InterpolateMirrored.j2 kj33 t326 t330 ((t326.length : Int) != (t330.length : Int))) else (swarflaw33_InterpolateMirrored.j2 kj33 t326 t330 true)) else (swarflaw33_InterpolateMirrored.j2 kj33 t326 t330 true)) = some r := H
      have A69 := Aside0.mk A690
      clear A690
      have HC70 := Aside0.mk H
      clear H
      have hnb71 := NB315_316.out
      have hnc71 := NB316_315.out
      have hnb72 := NB315_324.out
      have hnc72 := NB324_315.out
      have hnb73 := NB315_325.out
      have hnc73 := NB325_315.out
      have hcz74_0 : wc.cell? ⟨gb315, 0, none⟩ = some (.int .i64 a0_0) := (blk_cell BK315.out 0).trans rfl
      have hcz74_1 : wc.cell? ⟨gb315, 1, none⟩ = some (.int .i64 a0_1) := (blk_cell BK315.out 1).trans rfl
      have hcz74_2 : wc.cell? ⟨gb315, 2, none⟩ = some (.int .i64 a0_2) := (blk_cell BK315.out 2).trans rfl
      have hfz74_0 := blk_frozen BK315.out 0
      have hfz74_1 := blk_frozen BK315.out 1
      have hfz74_2 := blk_frozen BK315.out 2
      have hnb75 := NB316_324.out
      have hnc75 := NB324_316.out
      have hnb76 := NB316_325.out
      have hnc76 := NB325_316.out
      have hcz77_0 : wc.cell? ⟨gb316, 0, none⟩ = some (.int .i64 a1_0) := (blk_cell BK316.out 0).trans rfl
      have hcz77_1 : wc.cell? ⟨gb316, 1, none⟩ = some (.int .i64 a1_1) := (blk_cell BK316.out 1).trans rfl
      have hcz77_2 : wc.cell? ⟨gb316, 2, none⟩ = some (.int .i64 a1_2) := (blk_cell BK316.out 2).trans rfl
      have hcz77_3 : wc.cell? ⟨gb316, 3, none⟩ = some (.int .i64 a1_3) := (blk_cell BK316.out 3).trans rfl
      have hcz77_4 : wc.cell? ⟨gb316, 4, none⟩ = some (.int .i64 a1_4) := (blk_cell BK316.out 4).trans rfl
      have hcz77_5 : wc.cell? ⟨gb316, 5, none⟩ = some (.int .i64 a1_5) := (blk_cell BK316.out 5).trans rfl
      have hcz77_6 : wc.cell? ⟨gb316, 6, none⟩ = some (.int .i64 a1_6) := (blk_cell BK316.out 6).trans rfl
      have hfz77_0 := blk_frozen BK316.out 0
      have hfz77_1 := blk_frozen BK316.out 1
      have hfz77_2 := blk_frozen BK316.out 2
      have hfz77_3 := blk_frozen BK316.out 3
      have hfz77_4 := blk_frozen BK316.out 4
      have hfz77_5 := blk_frozen BK316.out 5
      have hfz77_6 := blk_frozen BK316.out 6
      go_upto_region 13 with (first | ((with_reducible refine gate_callee (f := 18) rfl ?_); refine goesL_ (some 57) rfl rfl Try.func18 (by kernel_rfl) rfl #[.agg #[.int .i64 a0_0, .int .i64 a0_1, .int .i64 a0_2], .agg #[.int .i64 a1_0, .int .i64 a1_1, .int .i64 a1_2, .int .i64 a1_3, .int .i64 a1_4, .int .i64 a1_5, .int .i64 a1_6]] rfl (by (try simp only [List.map_toArray, List.map_cons, List.map_nil]); first | done | rfl | (simp only [List.length_drop, List.length_take]; rfl)) ?_; (with_reducible refine (interpolate_Arc.calls kj33 a0_0 a0_1 a0_2 a1_0 a1_1 a1_2 a1_3 a1_4 a1_5 a1_6 t326 t329 _ A68.out).mono ?_); rintro e w78 ⟨v327, rfl, ho0, hb⟩; refine ⟨_, rfl, ?_⟩; have n0_ := Aside0.mk (Kd.R_lower (Kd.R_newB (Kd.R_newB ho0 (g := gb315) (o := .cells #[.int .i64 a0_0, .int .i64 a0_1, .int .i64 a0_2] 23 (0, 0)) (by (with_reducible repeat (first | refine blk_drewN ?_ _ | refine blk_drew ?_ | refine blk_alloc ?_ _)); exact BK315.out)) (g := gb324) (o := .cells #[.int .i64 a0_0, .int .i64 (wrap64 (-a0_1)), .int .i64 a0_2] 23 (0, 0)) (by (with_reducible repeat (first | refine blk_drewN ?_ _ | refine blk_drew ?_ | refine blk_alloc ?_ _)); exact BK324.out)) (below_size (by repeat (first | (with_reducible first | exact HB.out | apply below_alloc | apply pw_below_drewN | apply below_drew1 | refine below_set ?_ GE315.out | refine below_set ?_ GE316.out | refine below_set ?_ GE324.out | refine below_set ?_ GE325.out) | exact HB.out)))); have n1_ := Aside0.mk (blk_below (g := gb315) (o := .cells #[.int .i64 a0_0, .int .i64 a0_1, .int .i64 a0_2] 23 (0, 0)) (by (with_reducible repeat (first | refine blk_drewN ?_ _ | refine blk_drew ?_ | refine blk_alloc ?_ _)); exact BK315.out) hb); have n2_ := Aside0.mk (blk_below (g := gb316) (o := .cells #[.int .i64 a1_0, .int .i64 a1_1, .int .i64 a1_2, .int .i64 a1_3, .int .i64 a1_4, .int .i64 a1_5, .int .i64 a1_6] 27 (0, 0)) (by (with_reducible repeat (first | refine blk_drewN ?_ _ | refine blk_drew ?_ | refine blk_alloc ?_ _)); exact BK316.out) hb); have n3_ := Aside0.mk (blk_below (g := gb324) (o := .cells #[.int .i64 a0_0, .int .i64 (wrap64 (-a0_1)), .int .i64 a0_2] 23 (0, 0)) (by (with_reducible repeat (first | refine blk_drewN ?_ _ | refine blk_drew ?_ | refine blk_alloc ?_ _)); exact BK324.out) hb); have n4_ := Aside0.mk (blk_below (g := gb325) (o := .cells #[.int .i64 x326000_33, .int .i64 a1_1, .int .i64 (wrap64 (-a1_2)), .int .i64 a1_3, .int .i64 a1_4, .int .i64 (wrap64 (-a1_5)), .int .i64 a1_6] 27 (0, 0)) (by (with_reducible repeat (first | refine blk_drewN ?_ _ | refine blk_drew ?_ | refine blk_alloc ?_ _)); exact BK325.out) hb); have n5_ := Aside0.mk (below_step (by repeat (first | (with_reducible first | exact HB.out | apply below_alloc | apply pw_below_drewN | apply below_drew1 | refine below_set ?_ GE315.out | refine below_set ?_ GE316.out | refine below_set ?_ GE324.out | refine below_set ?_ GE325.out) | exact HB.out)) hb); clear BK315; clear BK316; clear BK324; clear BK325; clear HB; have HO328 := n0_; have BK315 := n1_; have BK316 := n2_; have BK324 := n3_; have BK325 := n4_; have HB := n5_; clear n0_ n1_ n2_ n3_ n4_ n5_; (try clear hb); (try clear hb2); (try clear hk); (try clear hi); (try clear ho0); have hnb79 := NB324_325.out; have hnc79 := NB325_324.out; have hcz80_0 : w78.cell? ⟨gb324, 0, none⟩ = some (.int .i64 a0_0) := (blk_cell BK324.out 0).trans rfl; have hcz80_1 : w78.cell? ⟨gb324, 1, none⟩ = some (.int .i64 (wrap64 (-a0_1))) := (blk_cell BK324.out 1).trans rfl; have hcz80_2 : w78.cell? ⟨gb324, 2, none⟩ = some (.int .i64 a0_2) := (blk_cell BK324.out 2).trans rfl; have hfz80_0 := blk_frozen BK324.out 0; have hfz80_1 := blk_frozen BK324.out 1; have hfz80_2 := blk_frozen BK324.out 2; have hcz81_0 : w78.cell? ⟨gb325, 0, none⟩ = some (.int .i64 x326000_33) := (blk_cell BK325.out 0).trans rfl; have hcz81_1 : w78.cell? ⟨gb325, 1, none⟩ = some (.int .i64 a1_1) := (blk_cell BK325.out 1).trans rfl; have hcz81_2 : w78.cell? ⟨gb325, 2, none⟩ = some (.int .i64 (wrap64 (-a1_2))) := (blk_cell BK325.out 2).trans rfl; have hcz81_3 : w78.cell? ⟨gb325, 3, none⟩ = some (.int .i64 a1_3) := (blk_cell BK325.out 3).trans rfl; have hcz81_4 : w78.cell? ⟨gb325, 4, none⟩ = some (.int .i64 a1_4) := (blk_cell BK325.out 4).trans rfl; have hcz81_5 : w78.cell? ⟨gb325, 5, none⟩ = some (.int .i64 (wrap64 (-a1_5))) := (blk_cell BK325.out 5).trans rfl; have hcz81_6 : w78.cell? ⟨gb325, 6, none⟩ = some (.int .i64 a1_6) := (blk_cell BK325.out 6).trans rfl; have hfz81_0 := blk_frozen BK325.out 0; have hfz81_1 := blk_frozen BK325.out 1; have hfz81_2 := blk_frozen BK325.out 2; have hfz81_3 := blk_frozen BK325.out 3; have hfz81_4 := blk_frozen BK325.out 4; have hfz81_5 := blk_frozen BK325.out 5; have hfz81_6 := blk_frozen BK325.out 6) | ((with_reducible refine gate_callee (f := 18) rfl ?_); refine goesL_ (some 63) rfl rfl Try.func18 (by kernel_rfl) rfl #[.agg #[.int .i64 a0_0, .int .i64 (wrap64 (-a0_1)), .int .i64 a0_2], .agg #[.int .i64 x326000_33, .int .i64 a1_1, .int .i64 (wrap64 (-a1_2)), .int .i64 a1_3, .int .i64 a1_4, .int .i64 (wrap64 (-a1_5)), .int .i64 a1_6]] rfl (by (try simp only [List.map_toArray, List.map_cons, List.map_nil]); first | done | rfl | (simp only [List.length_drop, List.length_take]; rfl)) ?_; (with_reducible refine (interpolate_Arc.calls kj33 a0_0 (wrap64 (-a0_1)) a0_2 x326000_33 a1_1 (wrap64 (-a1_2)) a1_3 a1_4 (wrap64 (-a1_5)) a1_6 t330 t333 _ A69.out).mono ?_); rintro e w82 ⟨v331, rfl, ho0, hb⟩; refine ⟨_, rfl, ?_⟩; have n0_ := Aside0.mk (Kd.R_elder' (by (with_reducible repeat (first | apply Kd.R_alloc | apply Kd.R_drewN | apply Kd.R_drew)); exact HO328.out) (Kd.R_base ho0) hb); have n1_ := Aside0.mk (Kd.R_lower (Kd.R_newB (Kd.R_newB (Kd.R_new' ho0 (Kd.R_lt (by (with_reducible repeat (first | apply Kd.R_alloc | apply Kd.R_drewN | apply Kd.R_drew)); exact HO328.out))) (g := gb315) (o := .cells #[.int .i64 a0_0, .int .i64 a0_1, .int .i64 a0_2] 23 (0, 0)) (by (with_reducible repeat (first | refine blk_drewN ?_ _ | refine blk_drew ?_ | refine blk_alloc ?_ _)); exact BK315.out)) (g := gb324) (o := .cells #[.int .i64 a0_0, .int .i64 (wrap64 (-a0_1)), .int .i64 a0_2] 23 (0, 0)) (by (with_reducible repeat (first | refine blk_drewN ?_ _ | refine blk_drew ?_ | refine blk_alloc ?_ _)); exact BK324.out)) (below_size (by repeat (first | (with_reducible first | exact HB.out | apply below_alloc | apply pw_below_drewN | apply below_drew1 | refine below_set ?_ GE315.out | refine below_set ?_ GE316.out | refine below_set ?_ GE324.out | refine below_set ?_ GE325.out) | exact HB.out)))); have n2_ := Aside0.mk (blk_below (g := gb315) (o := .cells #[.int .i64 a0_0, .int .i64 a0_1, .int .i64 a0_2] 23 (0, 0)) (by (with_reducible repeat (first | refine blk_drewN ?_ _ | refine blk_drew ?_ | refine blk_alloc ?_ _)); exact BK315.out) hb); have n3_ := Aside0.mk (blk_below (g := gb316) (o := .cells #[.int .i64 a1_0, .int .i64 a1_1, .int .i64 a1_2, .int .i64 a1_3, .int .i64 a1_4, .int .i64 a1_5, .int .i64 a1_6] 27 (0, 0)) (by (with_reducible repeat (first | refine blk_drewN ?_ _ | refine blk_drew ?_ | refine blk_alloc ?_ _)); exact BK316.out) hb); have n4_ := Aside0.mk (blk_below (g := gb324) (o := .cells #[.int .i64 a0_0, .int .i64 (wrap64 (-a0_1)), .int .i64 a0_2] 23 (0, 0)) (by (with_reducible repeat (first | refine blk_drewN ?_ _ | refine blk_drew ?_ | refine blk_alloc ?_ _)); exact BK324.out) hb); have n5_ := Aside0.mk (blk_below (g := gb325) (o := .cells #[.int .i64 x326000_33, .int .i64 a1_1, .int .i64 (wrap64 (-a1_2)), .int .i64 a1_3, .int .i64 a1_4, .int .i64 (wrap64 (-a1_5)), .int .i64 a1_6] 27 (0, 0)) (by (with_reducible repeat (first | refine blk_drewN ?_ _ | refine blk_drew ?_ | refine blk_alloc ?_ _)); exact BK325.out) hb); have n6_ := Aside0.mk (below_step (by repeat (first | (with_reducible first | exact HB.out | apply below_alloc | apply pw_below_drewN | apply below_drew1 | refine below_set ?_ GE315.out | refine below_set ?_ GE316.out | refine below_set ?_ GE324.out | refine below_set ?_ GE325.out) | exact HB.out)) hb); clear HO328; clear BK315; clear BK316; clear BK324; clear BK325; clear HB; have HO328 := n0_; have HO332 := n1_; have BK315 := n2_; have BK316 := n3_; have BK324 := n4_; have BK325 := n5_; have HB := n6_; clear n0_ n1_ n2_ n3_ n4_ n5_ n6_; (try clear hb); (try clear hb2); (try clear hk); (try clear hi); (try clear ho0)))
      (try simp only [Act.put, List.setIfInBounds_toArray, List.set_cons_zero, List.set_cons_succ])
      go_cut [78] (fun v78 wc => ∃ (kq : Nat) (x78_69 : Bool), v78 = .bool x78_69 ∧ Aside0 (swarflaw33_InterpolateMirrored.j2 kq t326 t330 x78_69 = some r) ∧ Aside0 (kq ≤ kj33) ∧ Aside0 (Kd.R k23 23 wc w.heap.size (fun k_ => some k_ ≠ (v331 : Value).ownBlock ∧ k_ ≠ gb315 ∧ k_ ≠ gb324) v327 t326) ∧ Aside0 (Kd.R k23 23 wc w.heap.size (fun k_ => some k_ ≠ (v327 : Value).ownBlock ∧ k_ ≠ gb315 ∧ k_ ≠ gb324) v331 t330) ∧ Aside0 (wc.heap[gb315]? = some (.cells #[.int .i64 a0_0, .int .i64 a0_1, .int .i64 a0_2] 23 (0, 0))) ∧ Aside0 (wc.heap[gb316]? = some (.cells #[.int .i64 a1_0, .int .i64 a1_1, .int .i64 a1_2, .int .i64 a1_3, .int .i64 a1_4, .int .i64 a1_5, .int .i64 a1_6] 27 (0, 0))) ∧ Aside0 (wc.heap[gb324]? = some (.cells #[.int .i64 a0_0, .int .i64 (wrap64 (-a0_1)), .int .i64 a0_2] 23 (0, 0))) ∧ Aside0 (wc.heap[gb325]? = some (.cells #[.int .i64 x326000_33, .int .i64 a1_1, .int .i64 (wrap64 (-a1_2)), .int .i64 a1_3, .int .i64 a1_4, .int .i64 (wrap64 (-a1_5)), .int .i64 a1_6] 27 (0, 0))) ∧ Aside0 (Below w.heap.size w wc))
      case first =>
       have H := HC70.out
       clear HC70
       by_cases c83 : t329 = 0
       ·rw [if_pos c83] at H
        have c83b0 : (t329 == 0) = true := beq_iff_eq.mpr c83
        have c83b1 : (t329 != 0) = false := bne_eq_false_iff_eq.mpr c83
        clear c83
        (first | rw [c83b0] | (simp only [i64_w, i32_w]; rw [c83b0]) | skip)
        by_cases c84 : t333 = 0
        ·rw [if_pos c84] at H
         have c84b0 : (t333 == 0) = true := beq_iff_eq.mpr c84
         have c84b1 : (t333 != 0) = false := bne_eq_false_iff_eq.mpr c84
         clear c84
         have H' := Aside0.mk H
         clear H
         obtain ⟨Ao85, co85, eo85⟩ := Kd.R_slice HO328.out
         subst eo85
         obtain ⟨Ao86, co86, eo86⟩ := Kd.R_slice HO332.out
         subst eo86
         go_wp2
         go_meet
         case rel => exact ⟨_, (((t326.length : Int) != (t330.length : Int))), (by first | rfl | (simp; done) | (simp [*]; done)), H', ⟨by have := HJ2.out; have := HJ33.out; first | omega | exact Nat.le_refl _⟩, ⟨by (with_reducible repeat (first | apply Kd.R_alloc | apply Kd.R_drewN | apply Kd.R_drew)); exact Kd.R_mono HO328.out (fun _ hk => ⟨hk.2, ⟨hk.1.1.2, hk.1.2⟩⟩)⟩, ⟨by (with_reducible repeat (first | apply Kd.R_alloc | apply Kd.R_drewN | apply Kd.R_drew)); exact Kd.R_mono HO332.out (fun _ hk => ⟨hk.1.1.2, ⟨hk.1.2, hk.2⟩⟩)⟩, ⟨by (with_reducible repeat (first | refine blk_drewN ?_ _ | refine blk_drew ?_ | refine blk_alloc ?_ _)); exact BK315.out⟩, ⟨by (with_reducible repeat (first | refine blk_drewN ?_ _ | refine blk_drew ?_ | refine blk_alloc ?_ _)); exact BK316.out⟩, ⟨by (with_reducible repeat (first | refine blk_drewN ?_ _ | refine blk_drew ?_ | refine blk_alloc ?_ _)); exact BK324.out⟩, ⟨by (with_reducible repeat (first | refine blk_drewN ?_ _ | refine blk_drew ?_ | refine blk_alloc ?_ _)); exact BK325.out⟩, ⟨by repeat (first | (with_reducible first | exact HB.out | apply below_alloc | apply pw_below_drewN | apply below_drew1 | refine below_set ?_ GE315.out | refine below_set ?_ GE316.out | refine below_set ?_ GE324.out | refine below_set ?_ GE325.out) | exact HB.out)⟩⟩
        ·rw [if_neg c84] at H
         have c84b0 : (t333 == 0) = false := beq_eq_false_iff_ne.mpr c84
         have c84b1 : (t333 != 0) = true := bne_iff_ne.mpr c84
         have H' := Aside0.mk H
         clear H
         go_wp2
         go_meet
         case rel => exact ⟨_, (true), (by first | rfl | (simp; done) | (simp [*]; done)), H', ⟨by have := HJ2.out; have := HJ33.out; first | omega | exact Nat.le_refl _⟩, ⟨by (with_reducible repeat (first | apply Kd.R_alloc | apply Kd.R_drewN | apply Kd.R_drew)); exact Kd.R_mono HO328.out (fun _ hk => ⟨hk.2, ⟨hk.1.1.2, hk.1.2⟩⟩)⟩, ⟨by (with_reducible repeat (first | apply Kd.R_alloc | apply Kd.R_drewN | apply Kd.R_drew)); exact Kd.R_mono HO332.out (fun _ hk => ⟨hk.1.1.2, ⟨hk.1.2, hk.2⟩⟩)⟩, ⟨by (with_reducible repeat (first | refine blk_drewN ?_ _ | refine blk_drew ?_ | refine blk_alloc ?_ _)); exact BK315.out⟩, ⟨by (with_reducible repeat (first | refine blk_drewN ?_ _ | refine blk_drew ?_ | refine blk_alloc ?_ _)); exact BK316.out⟩, ⟨by (with_reducible repeat (first | refine blk_drewN ?_ _ | refine blk_drew ?_ | refine blk_alloc ?_ _)); exact BK324.out⟩, ⟨by (with_reducible repeat (first | refine blk_drewN ?_ _ | refine blk_drew ?_ | refine blk_alloc ?_ _)); exact BK325.out⟩, ⟨by repeat (first | (with_reducible first | exact HB.out | apply below_alloc | apply pw_below_drewN | apply below_drew1 | refine below_set ?_ GE315.out | refine below_set ?_ GE316.out | refine below_set ?_ GE324.out | refine below_set ?_ GE325.out) | exact HB.out)⟩⟩
       ·rw [if_neg c83] at H
        have c83b0 : (t329 == 0) = false := beq_eq_false_iff_ne.mpr c83
        have c83b1 : (t329 != 0) = true := bne_iff_ne.mpr c83
        (first | rw [c83b0] | (simp only [i64_w, i32_w]; rw [c83b0]) | skip)
        have H' := Aside0.mk H
        clear H
        go_wp2
        go_meet
        case rel => exact ⟨_, (true), (by first | rfl | (simp; done) | (simp [*]; done)), H', ⟨by have := HJ2.out; have := HJ33.out; first | omega | exact Nat.le_refl _⟩, ⟨by (with_reducible repeat (first | apply Kd.R_alloc | apply Kd.R_drewN | apply Kd.R_drew)); exact Kd.R_mono HO328.out (fun _ hk => ⟨hk.2, ⟨hk.1.1.2, hk.1.2⟩⟩)⟩, ⟨by (with_reducible repeat (first | apply Kd.R_alloc | apply Kd.R_drewN | apply Kd.R_drew)); exact Kd.R_mono HO332.out (fun _ hk => ⟨hk.1.1.2, ⟨hk.1.2, hk.2⟩⟩)⟩, ⟨by (with_reducible repeat (first | refine blk_drewN ?_ _ | refine blk_drew ?_ | refine blk_alloc ?_ _)); exact BK315.out⟩, ⟨by (with_reducible repeat (first | refine blk_drewN ?_ _ | refine blk_drew ?_ | refine blk_alloc ?_ _)); exact BK316.out⟩, ⟨by (with_reducible repeat (first | refine blk_drewN ?_ _ | refine blk_drew ?_ | refine blk_alloc ?_ _)); exact BK324.out⟩, ⟨by (with_reducible repeat (first | refine blk_drewN ?_ _ | refine blk_drew ?_ | refine blk_alloc ?_ _)); exact BK325.out⟩, ⟨by repeat (first | (with_reducible first | exact HB.out | apply below_alloc | apply pw_below_drewN | apply below_drew1 | refine below_set ?_ GE315.out | refine below_set ?_ GE316.out | refine below_set ?_ GE324.out | refine below_set ?_ GE325.out) | exact HB.out)⟩⟩
      case rest =>
       clear HC70
       try clear c1
       try clear p2
       try clear c5
       try clear c6
       try clear p6
       try clear c7
       try clear c8
       try clear c18
       try clear c54
       try clear c55
       try clear c56
       try clear c58
       try clear c58b0
       try clear c58b1
       try clear c59
       try clear c60
       try clear c61
       try clear c63
       try clear c63b0
       try clear c63b1
       try clear c64
       try clear p64
       try clear c65
       try clear c66
       try clear c71
       try clear c72
       try clear c73
       try clear c75
       try clear c76
       try clear c79
       try clear c83
       try clear c83b0
       try clear c83b1
       try clear c84
       try clear c84b0
       try clear c84b1
       try clear hcz57_0
       try clear hcz57_1
       try clear hcz57_2
       try clear hcz57_3
       try clear hcz57_4
       try clear hcz57_5
       try clear hcz57_6
       try clear hcz62_0
       try clear hcz62_1
       try clear hcz62_2
       try clear hcz62_3
       try clear hcz62_4
       try clear hcz62_5
       try clear hcz62_6
       try clear hcz67_0
       try clear hcz67_1
       try clear hcz67_2
       try clear hcz67_3
       try clear hcz67_4
       try clear hcz67_5
       try clear hcz67_6
       try clear hcz74_0
       try clear hcz74_1
       try clear hcz74_2
       try clear hcz77_0
       try clear hcz77_1
       try clear hcz77_2
       try clear hcz77_3
       try clear hcz77_4
       try clear hcz77_5
       try clear hcz77_6
       try clear hcz80_0
       try clear hcz80_1
       try clear hcz80_2
       try clear hcz81_0
       try clear hcz81_1
       try clear hcz81_2
       try clear hcz81_3
       try clear hcz81_4
       try clear hcz81_5
       try clear hcz81_6
       try clear hfz57_0
       try clear hfz57_1
       try clear hfz57_2
       try clear hfz57_3
       try clear hfz57_4
       try clear hfz57_5
       try clear hfz57_6
       try clear hfz62_0
       try clear hfz62_1
       try clear hfz62_2
       try clear hfz62_3
       try clear hfz62_4
       try clear hfz62_5
       try clear hfz62_6
       try clear hfz67_0
       try clear hfz67_1
       try clear hfz67_2
       try clear hfz67_3
       try clear hfz67_4
       try clear hfz67_5
       try clear hfz67_6
       try clear hfz74_0
       try clear hfz74_1
       try clear hfz74_2
       try clear hfz77_0
       try clear hfz77_1
       try clear hfz77_2
       try clear hfz77_3
       try clear hfz77_4
       try clear hfz77_5
       try clear hfz77_6
       try clear hfz80_0
       try clear hfz80_1
       try clear hfz80_2
       try clear hfz81_0
       try clear hfz81_1
       try clear hfz81_2
       try clear hfz81_3
       try clear hfz81_4
       try clear hfz81_5
       try clear hfz81_6
       try clear p2
       try clear p6
       try clear p64
       obtain ⟨kq, x78_69, rfl, HA, HJ69, HO_7, HO_9, BK315, BK316, BK324, BK325, HB⟩ := hcut
       cases kq with
       | zero => exact absurd HA.out (by simp [swarflaw33_InterpolateMirrored.j2])
       | succ kj69 =>
        have H := HA.out
        clear HA
        simp only [swarflaw33_InterpolateMirrored.j2] at H
        by_cases c87 : x78_69 = true
        ·subst c87
         have H1 : (some false) = some r := by rw [if_pos rfl] at H; exact H
         clear H
         have H := H1
         clear H1
         obtain rfl := Option.some.inj H
         go_wp2
         go_ret
         exact ⟨by first | rfl | (simp [errW_none, errW_some] <;> rfl) | (simp [*, errW_none, errW_some] <;> rfl), by repeat (first | (with_reducible first | exact HB.out | apply below_alloc | apply pw_below_drewN | apply below_drew1 | refine below_set ?_ GE315.out | refine below_set ?_ GE316.out | refine below_set ?_ GE324.out | refine below_set ?_ GE325.out) | exact HB.out)⟩
        ·replace c87 := Bool.eq_false_iff.mpr c87
         subst c87
         have H1 : (swarflaw33_InterpolateMirrored.l0 kj69 t326 t330 (t326.length : Int) 0) = some r := by rw [if_neg (show ¬ (false = true) by decide)] at H; exact H
         clear H
         have H := H1
         clear H1
         have H' := Aside0.mk H
         clear H
         obtain ⟨Ao88, co88, eo88⟩ := Kd.R_slice HO_7.out
         subst eo88
         go_wp2
         go_loopg [81] kj69 (fun kq v81 w' => ∃ (x81_4 : Int), v81 = .int .i64 x81_4 ∧ Aside0 (swarflaw33_InterpolateMirrored.l0 kq t326 t330 (t326.length : Int) x81_4 = some r) ∧ Aside0 (kq ≤ kj69) ∧ Aside0 (Kd.R k23 23 w' w.heap.size (fun k_ => some k_ ≠ (v331 : Value).ownBlock ∧ k_ ≠ gb315 ∧ k_ ≠ gb324) (.slice Ao88 t326.length co88) t326) ∧ Aside0 (Kd.R k23 23 w' w.heap.size (fun k_ => some k_ ≠ ((.slice Ao88 t326.length co88) : Value).ownBlock ∧ k_ ≠ gb315 ∧ k_ ≠ gb324) v331 t330) ∧ Aside0 (w'.heap[gb315]? = some (.cells #[.int .i64 a0_0, .int .i64 a0_1, .int .i64 a0_2] 23 (0, 0))) ∧ Aside0 (w'.heap[gb316]? = some (.cells #[.int .i64 a1_0, .int .i64 a1_1, .int .i64 a1_2, .int .i64 a1_3, .int .i64 a1_4, .int .i64 a1_5, .int .i64 a1_6] 27 (0, 0))) ∧ Aside0 (w'.heap[gb324]? = some (.cells #[.int .i64 a0_0, .int .i64 (wrap64 (-a0_1)), .int .i64 a0_2] 23 (0, 0))) ∧ Aside0 (w'.heap[gb325]? = some (.cells #[.int .i64 x326000_33, .int .i64 a1_1, .int .i64 (wrap64 (-a1_2)), .int .i64 a1_3, .int .i64 a1_4, .int .i64 (wrap64 (-a1_5)), .int .i64 a1_6] 27 (0, 0))) ∧ Aside0 (Below w.heap.size w w'))
         case atStart => exact ⟨(0), (by first | rfl | (simp; done) | (simp [*]; done)), H', ⟨Nat.le_refl _⟩, ⟨by (with_reducible repeat (first | apply Kd.R_alloc | apply Kd.R_drewN | apply Kd.R_drew)); exact HO_7.out⟩, ⟨by (with_reducible repeat (first | apply Kd.R_alloc | apply Kd.R_drewN | apply Kd.R_drew)); exact HO_9.out⟩, ⟨by (with_reducible repeat (first | refine blk_drewN ?_ _ | refine blk_drew ?_ | refine blk_alloc ?_ _)); exact BK315.out⟩, ⟨by (with_reducible repeat (first | refine blk_drewN ?_ _ | refine blk_drew ?_ | refine blk_alloc ?_ _)); exact BK316.out⟩, ⟨by (with_reducible repeat (first | refine blk_drewN ?_ _ | refine blk_drew ?_ | refine blk_alloc ?_ _)); exact BK324.out⟩, ⟨by (with_reducible repeat (first | refine blk_drewN ?_ _ | refine blk_drew ?_ | refine blk_alloc ?_ _)); exact BK325.out⟩, ⟨by repeat (first | (with_reducible first | exact HB.out | apply below_alloc | apply pw_below_drewN | apply below_drew1 | refine below_set ?_ GE315.out | refine below_set ?_ GE316.out | refine below_set ?_ GE324.out | refine below_set ?_ GE325.out) | exact HB.out)⟩⟩
         case round =>
          clear H'
          try clear c1
          try clear p2
          try clear c5
          try clear c6
          try clear p6
          try clear c7
          try clear c8
          try clear c18
          try clear c54
          try clear c55
          try clear c56
          try clear c58
          try clear c58b0
          try clear c58b1
          try clear c59
          try clear c60
          try clear c61
          try clear c63
          try clear c63b0
          try clear c63b1
          try clear c64
          try clear p64
          try clear c65
          try clear c66
          try clear c71
          try clear c72
          try clear c73
          try clear c75
          try clear c76
          try clear c79
          try clear c83
          try clear c83b0
          try clear c83b1
          try clear c84
          try clear c84b0
          try clear c84b1
          try clear c87
          try clear hcz57_0
          try clear hcz57_1
          try clear hcz57_2
          try clear hcz57_3
          try clear hcz57_4
          try clear hcz57_5
          try clear hcz57_6
          try clear hcz62_0
          try clear hcz62_1
          try clear hcz62_2
          try clear hcz62_3
          try clear hcz62_4
          try clear hcz62_5
          try clear hcz62_6
          try clear hcz67_0
          try clear hcz67_1
          try clear hcz67_2
          try clear hcz67_3
          try clear hcz67_4
          try clear hcz67_5
          try clear hcz67_6
          try clear hcz74_0
          try clear hcz74_1
          try clear hcz74_2
          try clear hcz77_0
          try clear hcz77_1
          try clear hcz77_2
          try clear hcz77_3
          try clear hcz77_4
          try clear hcz77_5
          try clear hcz77_6
          try clear hcz80_0
          try clear hcz80_1
          try clear hcz80_2
          try clear hcz81_0
          try clear hcz81_1
          try clear hcz81_2
          try clear hcz81_3
          try clear hcz81_4
          try clear hcz81_5
          try clear hcz81_6
          try clear hfz57_0
          try clear hfz57_1
          try clear hfz57_2
          try clear hfz57_3
          try clear hfz57_4
          try clear hfz57_5
          try clear hfz57_6
          try clear hfz62_0
          try clear hfz62_1
          try clear hfz62_2
          try clear hfz62_3
          try clear hfz62_4
          try clear hfz62_5
          try clear hfz62_6
          try clear hfz67_0
          try clear hfz67_1
          try clear hfz67_2
          try clear hfz67_3
          try clear hfz67_4
          try clear hfz67_5
          try clear hfz67_6
          try clear hfz74_0
          try clear hfz74_1
          try clear hfz74_2
          try clear hfz77_0
          try clear hfz77_1
          try clear hfz77_2
          try clear hfz77_3
          try clear hfz77_4
          try clear hfz77_5
          try clear hfz77_6
          try clear hfz80_0
          try clear hfz80_1
          try clear hfz80_2
          try clear hfz81_0
          try clear hfz81_1
          try clear hfz81_2
          try clear hfz81_3
          try clear hfz81_4
          try clear hfz81_5
          try clear hfz81_6
          try clear p2
          try clear p6
          try clear p64
          obtain ⟨x81_4, rfl, HA, HK4, HO_7, HO_9, BK315, BK316, BK324, BK325, HB⟩ := hrel
          cases gk with
          | zero => exact absurd HA.out (by simp [swarflaw33_InterpolateMirrored.l0])
          | succ k4 =>
           have H := HA.out
           clear HA
           simp only [swarflaw33_InterpolateMirrored.l0] at H
           by_cases c89 : x81_4 < (t326.length : Int)
           ·rw [if_pos c89] at H
            have c89b0 : decide (x81_4 < (t326.length : Int)) = true := decide_eq_true c89
            clear c89
            by_cases c90 : 0 ≤ x81_4
            ·rw [if_pos c90] at H
             have c90b0 : decide (0 ≤ x81_4) = true := decide_eq_true c90
             clear c90
             by_cases c91 : x81_4 < (t326.length : Int)
             ·rw [if_pos c91] at H
              have c91b0 : decide (x81_4 < (t326.length : Int)) = true := decide_eq_true c91
              clear c91
              by_cases c92 : x81_4 < (t330.length : Int)
              ·rw [if_pos c92] at H
               have c92b0 : decide (x81_4 < (t330.length : Int)) = true := decide_eq_true c92
               clear c92
               by_cases c93 : ((rd_T23 t326 x81_4).f0) = ((rd_T23 t330 x81_4).f0)
               ·rw [if_pos c93] at H
                have c93b0 : (((rd_T23 t326 x81_4).f0) == ((rd_T23 t330 x81_4).f0)) = true := beq_iff_eq.mpr c93
                have c93b1 : (((rd_T23 t326 x81_4).f0) != ((rd_T23 t330 x81_4).f0)) = false := bne_eq_false_iff_eq.mpr c93
                clear c93
                by_cases c94 : ((rd_T23 t326 x81_4).f1) = (wrap64 (-((rd_T23 t330 x81_4).f1)))
                ·rw [if_pos c94] at H
                 have c94b0 : (((rd_T23 t326 x81_4).f1) == (wrap64 (-((rd_T23 t330 x81_4).f1)))) = true := beq_iff_eq.mpr c94
                 have c94b1 : (((rd_T23 t326 x81_4).f1) != (wrap64 (-((rd_T23 t330 x81_4).f1)))) = false := bne_eq_false_iff_eq.mpr c94
                 clear c94
                 by_cases c95 : ((rd_T23 t326 x81_4).f2) = ((rd_T23 t330 x81_4).f2)
                 ·rw [if_pos c95] at H
                  have c95b0 : (((rd_T23 t326 x81_4).f2) == ((rd_T23 t330 x81_4).f2)) = true := beq_iff_eq.mpr c95
                  have c95b1 : (((rd_T23 t326 x81_4).f2) != ((rd_T23 t330 x81_4).f2)) = false := bne_eq_false_iff_eq.mpr c95
                  clear c95
                  have H' := Aside0.mk H
                  clear H
                  try go_wp2
                  have n0_ := Aside0.mk (Kd.R_drew HO_7.out)
                  have n1_ := Aside0.mk (Kd.R_drew HO_9.out)
                  have n2_ := Aside0.mk (blk_drew BK315.out)
                  have n3_ := Aside0.mk (blk_drew BK316.out)
                  have n4_ := Aside0.mk (blk_drew BK324.out)
                  have n5_ := Aside0.mk (blk_drew BK325.out)
                  have n6_ := Aside0.mk (below_drew1 HB.out)
                  clear HO_7
                  clear HO_9
                  clear BK315
                  clear BK316
                  clear BK324
                  clear BK325
                  clear HB
                  have HO_7 := n0_
                  have HO_9 := n1_
                  have BK315 := n2_
                  have BK316 := n3_
                  have BK324 := n4_
                  have BK325 := n5_
                  have HB := n6_
                  clear n0_ n1_ n2_ n3_ n4_ n5_ n6_
                  have p334 : 0 ≤ (x81_4 : Int) := of_decide_eq_true (by first | (with_reducible assumption) | assumption)
                  have q334 : x81_4 < (t326.length : Int) := of_decide_eq_true (by first | (with_reducible assumption) | assumption)
                  obtain ⟨ad334, e334, hx334_0, hx334_1, hx334_2⟩ := at_T23 (Kd.R_reads' HO_7.out).2.2 x81_4 p334 q334
                  cases e334
                  replace p334 := eq_true p334
                  replace q334 := eq_true q334
                  obtain ⟨Ao97, co97, eo97⟩ := Kd.R_slice HO_9.out
                  (first | subst eo97 | (injection eo97 with f1_ f2_ f3_; have f4_ := f1_.symm; have f5_ := f3_.symm; clear f1_ f2_ f3_; subst f4_; subst f5_))
                  have p335 : 0 ≤ (x81_4 : Int) := of_decide_eq_true (by first | (with_reducible assumption) | assumption)
                  have q335 : x81_4 < (t330.length : Int) := of_decide_eq_true (by first | (with_reducible assumption) | assumption)
                  obtain ⟨ad335, e335, hx335_0, hx335_1, hx335_2⟩ := at_T23 (Kd.R_reads' HO_9.out).2.2 x81_4 p335 q335
                  cases e335
                  replace p335 := eq_true p335
                  replace q335 := eq_true q335
                  have p336 : 0 ≤ (x81_4 : Int) := of_decide_eq_true (by first | (with_reducible assumption) | assumption)
                  have q336 : x81_4 < (t326.length : Int) := of_decide_eq_true (by first | (with_reducible assumption) | assumption)
                  obtain ⟨ad336, e336, hx336_0, hx336_1, hx336_2⟩ := at_T23 (Kd.R_reads' HO_7.out).2.2 x81_4 p336 q336
                  obtain rfl : ad334 = ad336 := (by injection e336)
                  replace p336 := eq_true p336
                  replace q336 := eq_true q336
                  have p337 : 0 ≤ (x81_4 : Int) := of_decide_eq_true (by first | (with_reducible assumption) | assumption)
                  have q337 : x81_4 < (t330.length : Int) := of_decide_eq_true (by first | (with_reducible assumption) | assumption)
                  obtain ⟨ad337, e337, hx337_0, hx337_1, hx337_2⟩ := at_T23 (Kd.R_reads' HO_9.out).2.2 x81_4 p337 q337
                  obtain rfl : ad335 = ad337 := (by injection e337)
                  replace p337 := eq_true p337
                  replace q337 := eq_true q337
                  have p338 : 0 ≤ (x81_4 : Int) := of_decide_eq_true (by first | (with_reducible assumption) | assumption)
                  have q338 : x81_4 < (t326.length : Int) := of_decide_eq_true (by first | (with_reducible assumption) | assumption)
                  obtain ⟨ad338, e338, hx338_0, hx338_1, hx338_2⟩ := at_T23 (Kd.R_reads' HO_7.out).2.2 x81_4 p338 q338
                  obtain rfl : ad334 = ad338 := (by injection e338)
                  replace p338 := eq_true p338
                  replace q338 := eq_true q338
                  have p339 : 0 ≤ (x81_4 : Int) := of_decide_eq_true (by first | (with_reducible assumption) | assumption)
                  have q339 : x81_4 < (t330.length : Int) := of_decide_eq_true (by first | (with_reducible assumption) | assumption)
                  obtain ⟨ad339, e339, hx339_0, hx339_1, hx339_2⟩ := at_T23 (Kd.R_reads' HO_9.out).2.2 x81_4 p339 q339
                  obtain rfl : ad335 = ad339 := (by injection e339)
                  replace p339 := eq_true p339
                  replace q339 := eq_true q339
                  refine start_ (n := 38) (S := fun w' => w'.cell? (ad334.add ((x81_4).toNat * 3)) = some (.int .i64 ((rd_T23 t326 x81_4).f0)) ∧ w'.cell? ⟨(ad334.add ((x81_4).toNat * 3)).block, (ad334.add ((x81_4).toNat * 3)).off + 1, none⟩ = some (.int .i64 ((rd_T23 t326 x81_4).f1)) ∧ w'.cell? ⟨(ad334.add ((x81_4).toNat * 3)).block, (ad334.add ((x81_4).toNat * 3)).off + 2, none⟩ = some (.int .i64 ((rd_T23 t326 x81_4).f2)) ∧ w'.cell? (ad335.add ((x81_4).toNat * 3)) = some (.int .i64 ((rd_T23 t330 x81_4).f0)) ∧ w'.cell? ⟨(ad335.add ((x81_4).toNat * 3)).block, (ad335.add ((x81_4).toNat * 3)).off + 1, none⟩ = some (.int .i64 ((rd_T23 t330 x81_4).f1)) ∧ w'.cell? ⟨(ad335.add ((x81_4).toNat * 3)).block, (ad335.add ((x81_4).toNat * 3)).off + 2, none⟩ = some (.int .i64 ((rd_T23 t330 x81_4).f2)) ∧ w'.cell? (ad334.add ((x81_4).toNat * 3)) = some (.int .i64 ((rd_T23 t326 x81_4).f0)) ∧ w'.cell? ⟨(ad334.add ((x81_4).toNat * 3)).block, (ad334.add ((x81_4).toNat * 3)).off + 1, none⟩ = some (.int .i64 ((rd_T23 t326 x81_4).f1)) ∧ w'.cell? ⟨(ad334.add ((x81_4).toNat * 3)).block, (ad334.add ((x81_4).toNat * 3)).off + 2, none⟩ = some (.int .i64 ((rd_T23 t326 x81_4).f2)) ∧ w'.cell? (ad335.add ((x81_4).toNat * 3)) = some (.int .i64 ((rd_T23 t330 x81_4).f0)) ∧ w'.cell? ⟨(ad335.add ((x81_4).toNat * 3)).block, (ad335.add ((x81_4).toNat * 3)).off + 1, none⟩ = some (.int .i64 ((rd_T23 t330 x81_4).f1)) ∧ w'.cell? ⟨(ad335.add ((x81_4).toNat * 3)).block, (ad335.add ((x81_4).toNat * 3)).off + 2, none⟩ = some (.int .i64 ((rd_T23 t330 x81_4).f2)) ∧ w'.cell? (ad334.add ((x81_4).toNat * 3)) = some (.int .i64 ((rd_T23 t326 x81_4).f0)) ∧ w'.cell? ⟨(ad334.add ((x81_4).toNat * 3)).block, (ad334.add ((x81_4).toNat * 3)).off + 1, none⟩ = some (.int .i64 ((rd_T23 t326 x81_4).f1)) ∧ w'.cell? ⟨(ad334.add ((x81_4).toNat * 3)).block, (ad334.add ((x81_4).toNat * 3)).off + 2, none⟩ = some (.int .i64 ((rd_T23 t326 x81_4).f2)) ∧ w'.cell? (ad335.add ((x81_4).toNat * 3)) = some (.int .i64 ((rd_T23 t330 x81_4).f0)) ∧ w'.cell? ⟨(ad335.add ((x81_4).toNat * 3)).block, (ad335.add ((x81_4).toNat * 3)).off + 1, none⟩ = some (.int .i64 ((rd_T23 t330 x81_4).f1)) ∧ w'.cell? ⟨(ad335.add ((x81_4).toNat * 3)).block, (ad335.add ((x81_4).toNat * 3)).off + 2, none⟩ = some (.int .i64 ((rd_T23 t330 x81_4).f2))) (ds := []) #[false, false, false, false, false, false, false, false, false, false, false, false, false, false, false, false, false, false, false, false, false, false, false, false, false, false, false, false, false, false, false, false, false, false, false, false, false, false] (by kernel_rfl) rfl rfl ⟨hx334_0, hx334_1, hx334_2, hx335_0, hx335_1, hx335_2, hx336_0, hx336_1, hx336_2, hx337_0, hx337_1, hx337_2, hx338_0, hx338_1, hx338_2, hx339_0, hx339_1, hx339_2⟩ (fun hHeld => ?_); refine with_tabW swarflaw33_InterpolateMirrored.tab18 swarflaw33_InterpolateMirrored.bits18 (fun HT_ HW_ => ?_)
                  generalize wr.drew = w96 at HO_7 HO_9 BK315 BK316 BK324 BK325 HB hx334_0 hx334_1 hx334_2 hx335_0 hx335_1 hx335_2 hx336_0 hx336_1 hx336_2 hx337_0 hx337_1 hx337_2 hx338_0 hx338_1 hx338_2 hx339_0 hx339_1 hx339_2 hHeld ⊢
                  refine pure_ (i := 0) (N := some 84) (v := ?_) (a' := ?_) #[true, false, false, false, false, false, false, false, false, false, false, false, false, false, false, false, false, false, false, false, false, false, false, false, false, false, false, false, false, false, false, false, false, false, false, false, false, false] rfl rfl (any_of HT_.out (by kernel_rfl)) (fun _ _ _ h => h) (Or.inl ⟨by rfl, ?_⟩) ?_ ?_
                  rotate_left
                  ·intro w'
                   go_simp
                   with_reducible rfl
                  rotate_left
                  ·simp only [Act.put, List.setIfInBounds_toArray, List.set_cons_zero, List.set_cons_succ, i64_w, i32_w]
                   rfl
                  refine pure_ (i := 1) (N := some 85) (v := ?_) (a' := ?_) #[true, true, false, false, false, false, false, false, false, false, false, false, false, false, false, false, false, false, false, false, false, false, false, false, false, false, false, false, false, false, false, false, false, false, false, false, false, false] rfl rfl (any_of HT_.out (by kernel_rfl)) (fun _ _ _ h => h) (Or.inl ⟨by rfl, ?_⟩) ?_ ?_
                  rotate_left
                  ·intro w'
                   go_simp
                   with_reducible rfl
                  rotate_left
                  ·simp only [Act.put, List.setIfInBounds_toArray, List.set_cons_zero, List.set_cons_succ, i64_w, i32_w]
                   rfl
                  refine pure_ (i := 2) (N := some 86) (v := ?_) (a' := ?_) #[true, true, true, false, false, false, false, false, false, false, false, false, false, false, false, false, false, false, false, false, false, false, false, false, false, false, false, false, false, false, false, false, false, false, false, false, false, false] rfl rfl (any_of HT_.out (by kernel_rfl)) (fun _ _ _ h => h) (Or.inl ⟨by rfl, ?_⟩) ?_ ?_
                  rotate_left
                  ·intro w'
                   go_simp
                   with_reducible rfl
                  rotate_left
                  ·simp only [Act.put, List.setIfInBounds_toArray, List.set_cons_zero, List.set_cons_succ, i64_w, i32_w]
                   rfl
                  refine pure_ (i := 3) (N := some 87) (v := ?_) (a' := ?_) #[true, true, true, true, false, false, false, false, false, false, false, false, false, false, false, false, false, false, false, false, false, false, false, false, false, false, false, false, false, false, false, false, false, false, false, false, false, false] rfl rfl (any_of HT_.out (by kernel_rfl)) (fun _ _ _ h => h) (Or.inl ⟨by rfl, ?_⟩) ?_ ?_
                  rotate_left
                  ·intro w'
                   go_simp
                   with_reducible rfl
                  rotate_left
                  ·simp only [Act.put, List.setIfInBounds_toArray, List.set_cons_zero, List.set_cons_succ, i64_w, i32_w]
                   rfl
                  refine pure_ (i := 5) (N := some 89) (v := ?_) (a' := ?_) #[true, true, true, true, false, true, false, false, false, false, false, false, false, false, false, false, false, false, false, false, false, false, false, false, false, false, false, false, false, false, false, false, false, false, false, false, false, false] rfl rfl (any_of HT_.out (by kernel_rfl)) (fun _ _ _ h => h) (Or.inl ⟨by rfl, ?_⟩) ?_ ?_
                  rotate_left
                  ·intro w'
                   go_simp
                   with_reducible rfl
                  rotate_left
                  ·simp only [Act.put, List.setIfInBounds_toArray, List.set_cons_zero, List.set_cons_succ, i64_w, i32_w]
                   rfl
                  refine pure_ (i := 6) (N := some 90) (v := ?_) (a' := ?_) #[true, true, true, true, false, true, true, false, false, false, false, false, false, false, false, false, false, false, false, false, false, false, false, false, false, false, false, false, false, false, false, false, false, false, false, false, false, false] rfl rfl (any_of HT_.out (by kernel_rfl)) (fun _ _ _ h => h) (Or.inl ⟨by rfl, ?_⟩) ?_ ?_
                  rotate_left
                  ·intro w'
                   go_simp
                   with_reducible rfl
                  rotate_left
                  ·simp only [Act.put, List.setIfInBounds_toArray, List.set_cons_zero, List.set_cons_succ, i64_w, i32_w]
                   rfl
                  refine pure_ (i := 7) (N := some 91) (v := ?_) (a' := ?_) #[true, true, true, true, false, true, true, true, false, false, false, false, false, false, false, false, false, false, false, false, false, false, false, false, false, false, false, false, false, false, false, false, false, false, false, false, false, false] rfl rfl (any_of HT_.out (by kernel_rfl)) (fun _ _ _ h => h) (Or.inl ⟨by rfl, ?_⟩) ?_ ?_
                  rotate_left
                  ·intro w'
                   go_simp
                   with_reducible rfl
                  rotate_left
                  ·simp only [Act.put, List.setIfInBounds_toArray, List.set_cons_zero, List.set_cons_succ, i64_w, i32_w]
                   rfl
                  refine pure_ (i := 8) (N := some 92) (v := ?_) (a' := ?_) #[true, true, true, true, false, true, true, true, true, false, false, false, false, false, false, false, false, false, false, false, false, false, false, false, false, false, false, false, false, false, false, false, false, false, false, false, false, false] rfl rfl (any_of HT_.out (by kernel_rfl)) (fun _ _ _ h => h) (Or.inl ⟨by rfl, ?_⟩) ?_ ?_
                  rotate_left
                  ·intro w'
                   go_simp
                   with_reducible rfl
                  rotate_left
                  ·simp only [Act.put, List.setIfInBounds_toArray, List.set_cons_zero, List.set_cons_succ, i64_w, i32_w]
                   rfl
                  refine take_ (i := 4) (N := some 88) (v := ?_) (a' := ?_) #[true, true, true, true, true, true, true, true, true, false, false, false, false, false, false, false, false, false, false, false, false, false, false, false, false, false, false, false, false, false, false, false, false, false, false, false, false, false] rfl rfl (take_ofW HT_.out HW_.out (by kernel_rfl)) (fun _ _ _ h => h) (Or.inl ⟨by rfl, ?_⟩) hHeld ?_ ?_
                  rotate_left
                  ·rintro w' ⟨s0, s1, s2, s3, s4, s5, s6, s7, s8, s9, s10, s11, s12, s13, s14, s15, s16, s17⟩
                   go_simp
                   with_reducible rfl
                  rotate_left
                  ·simp only [Act.put, List.setIfInBounds_toArray, List.set_cons_zero, List.set_cons_succ, i64_w, i32_w]
                   rfl
                  refine take_ (i := 9) (N := some 93) (v := ?_) (a' := ?_) #[true, true, true, true, true, true, true, true, true, true, false, false, false, false, false, false, false, false, false, false, false, false, false, false, false, false, false, false, false, false, false, false, false, false, false, false, false, false] rfl rfl (take_ofW HT_.out HW_.out (by kernel_rfl)) (fun _ _ _ h => h) (Or.inl ⟨by rfl, ?_⟩) hHeld ?_ ?_
                  rotate_left
                  ·rintro w' ⟨s0, s1, s2, s3, s4, s5, s6, s7, s8, s9, s10, s11, s12, s13, s14, s15, s16, s17⟩
                   go_simp
                   with_reducible rfl
                  rotate_left
                  ·simp only [Act.put, List.setIfInBounds_toArray, List.set_cons_zero, List.set_cons_succ, i64_w, i32_w]
                   rfl
                  refine pure_ (i := 10) (N := some 94) (v := ?_) (a' := ?_) #[true, true, true, true, true, true, true, true, true, true, true, false, false, false, false, false, false, false, false, false, false, false, false, false, false, false, false, false, false, false, false, false, false, false, false, false, false, false] rfl rfl (any_of HT_.out (by kernel_rfl)) (fun _ _ _ h => h) (Or.inl ⟨by rfl, ?_⟩) ?_ ?_
                  rotate_left
                  ·intro w'
                   go_simp
                   with_reducible rfl
                  rotate_left
                  ·simp only [Act.put, List.setIfInBounds_toArray, List.set_cons_zero, List.set_cons_succ, i64_w, i32_w]
                   rfl
                  refine pure_ (i := 11) (N := some 95) (v := ?_) (a' := ?_) #[true, true, true, true, true, true, true, true, true, true, true, true, false, false, false, false, false, false, false, false, false, false, false, false, false, false, false, false, false, false, false, false, false, false, false, false, false, false] rfl rfl (any_of HT_.out (by kernel_rfl)) (fun _ _ _ h => h) (Or.inl ⟨by rfl, ?_⟩) ?_ ?_
                  rotate_left
                  ·intro w'
                   go_simp
                   with_reducible rfl
                  rotate_left
                  ·simp only [Act.put, List.setIfInBounds_toArray, List.set_cons_zero, List.set_cons_succ, i64_w, i32_w]
                   rfl
                  refine pure_ (i := 12) (N := some 96) (v := ?_) (a' := ?_) #[true, true, true, true, true, true, true, true, true, true, true, true, true, false, false, false, false, false, false, false, false, false, false, false, false, false, false, false, false, false, false, false, false, false, false, false, false, false] rfl rfl (any_of HT_.out (by kernel_rfl)) (fun _ _ _ h => h) (Or.inl ⟨by rfl, ?_⟩) ?_ ?_
                  rotate_left
                  ·intro w'
                   go_simp
                   with_reducible rfl
                  rotate_left
                  ·simp only [Act.put, List.setIfInBounds_toArray, List.set_cons_zero, List.set_cons_succ, i64_w, i32_w]
                   rfl
                  refine pure_ (i := 13) (N := some 97) (v := ?_) (a' := ?_) #[true, true, true, true, true, true, true, true, true, true, true, true, true, true, false, false, false, false, false, false, false, false, false, false, false, false, false, false, false, false, false, false, false, false, false, false, false, false] rfl rfl (any_of HT_.out (by kernel_rfl)) (fun _ _ _ h => h) (Or.inl ⟨by rfl, ?_⟩) ?_ ?_
                  rotate_left
                  ·intro w'
                   go_simp
                   with_reducible rfl
                  rotate_left
                  ·simp only [Act.put, List.setIfInBounds_toArray, List.set_cons_zero, List.set_cons_succ, i64_w, i32_w]
                   rfl
                  refine pure_ (i := 14) (N := some 98) (v := ?_) (a' := ?_) #[true, true, true, true, true, true, true, true, true, true, true, true, true, true, true, false, false, false, false, false, false, false, false, false, false, false, false, false, false, false, false, false, false, false, false, false, false, false] rfl rfl (any_of HT_.out (by kernel_rfl)) (fun _ _ _ h => h) (Or.inl ⟨by rfl, ?_⟩) ?_ ?_
                  rotate_left
                  ·intro w'
                   go_simp
                   with_reducible rfl
                  rotate_left
                  ·simp only [Act.put, List.setIfInBounds_toArray, List.set_cons_zero, List.set_cons_succ, i64_w, i32_w]
                   rfl
                  refine pure_ (i := 15) (N := some 99) (v := ?_) (a' := ?_) #[true, true, true, true, true, true, true, true, true, true, true, true, true, true, true, true, false, false, false, false, false, false, false, false, false, false, false, false, false, false, false, false, false, false, false, false, false, false] rfl rfl (any_of HT_.out (by kernel_rfl)) (fun _ _ _ h => h) (Or.inl ⟨by rfl, ?_⟩) ?_ ?_
                  rotate_left
                  ·intro w'
                   go_simp
                   with_reducible rfl
                  rotate_left
                  ·simp only [Act.put, List.setIfInBounds_toArray, List.set_cons_zero, List.set_cons_succ, i64_w, i32_w]
                   rfl
                  refine pure_ (i := 17) (N := some 101) (v := ?_) (a' := ?_) #[true, true, true, true, true, true, true, true, true, true, true, true, true, true, true, true, false, true, false, false, false, false, false, false, false, false, false, false, false, false, false, false, false, false, false, false, false, false] rfl rfl (any_of HT_.out (by kernel_rfl)) (fun _ _ _ h => h) (Or.inl ⟨by rfl, ?_⟩) ?_ ?_
                  rotate_left
                  ·intro w'
                   go_simp
                   with_reducible rfl
                  rotate_left
                  ·simp only [Act.put, List.setIfInBounds_toArray, List.set_cons_zero, List.set_cons_succ, i64_w, i32_w]
                   rfl
                  refine pure_ (i := 18) (N := some 102) (v := ?_) (a' := ?_) #[true, true, true, true, true, true, true, true, true, true, true, true, true, true, true, true, false, true, true, false, false, false, false, false, false, false, false, false, false, false, false, false, false, false, false, false, false, false] rfl rfl (any_of HT_.out (by kernel_rfl)) (fun _ _ _ h => h) (Or.inl ⟨by rfl, ?_⟩) ?_ ?_
                  rotate_left
                  ·intro w'
                   go_simp
                   with_reducible rfl
                  rotate_left
                  ·simp only [Act.put, List.setIfInBounds_toArray, List.set_cons_zero, List.set_cons_succ, i64_w, i32_w]
                   rfl
                  refine pure_ (i := 19) (N := some 103) (v := ?_) (a' := ?_) #[true, true, true, true, true, true, true, true, true, true, true, true, true, true, true, true, false, true, true, true, false, false, false, false, false, false, false, false, false, false, false, false, false, false, false, false, false, false] rfl rfl (any_of HT_.out (by kernel_rfl)) (fun _ _ _ h => h) (Or.inl ⟨by rfl, ?_⟩) ?_ ?_
                  rotate_left
                  ·intro w'
                   go_simp
                   with_reducible rfl
                  rotate_left
                  ·simp only [Act.put, List.setIfInBounds_toArray, List.set_cons_zero, List.set_cons_succ, i64_w, i32_w]
                   rfl
                  refine pure_ (i := 20) (N := some 104) (v := ?_) (a' := ?_) #[true, true, true, true, true, true, true, true, true, true, true, true, true, true, true, true, false, true, true, true, true, false, false, false, false, false, false, false, false, false, false, false, false, false, false, false, false, false] rfl rfl (any_of HT_.out (by kernel_rfl)) (fun _ _ _ h => h) (Or.inl ⟨by rfl, ?_⟩) ?_ ?_
                  rotate_left
                  ·intro w'
                   go_simp
                   with_reducible rfl
                  rotate_left
                  ·simp only [Act.put, List.setIfInBounds_toArray, List.set_cons_zero, List.set_cons_succ, i64_w, i32_w]
                   rfl
                  refine take_ (i := 16) (N := some 100) (v := ?_) (a' := ?_) #[true, true, true, true, true, true, true, true, true, true, true, true, true, true, true, true, true, true, true, true, true, false, false, false, false, false, false, false, false, false, false, false, false, false, false, false, false, false] rfl rfl (take_ofW HT_.out HW_.out (by kernel_rfl)) (fun _ _ _ h => h) (Or.inl ⟨by rfl, ?_⟩) hHeld ?_ ?_
                  rotate_left
                  ·rintro w' ⟨s0, s1, s2, s3, s4, s5, s6, s7, s8, s9, s10, s11, s12, s13, s14, s15, s16, s17⟩
                   go_simp
                   with_reducible rfl
                  rotate_left
                  ·simp only [Act.put, List.setIfInBounds_toArray, List.set_cons_zero, List.set_cons_succ, i64_w, i32_w]
                   rfl
                  refine take_ (i := 21) (N := some 105) (v := ?_) (a' := ?_) #[true, true, true, true, true, true, true, true, true, true, true, true, true, true, true, true, true, true, true, true, true, true, false, false, false, false, false, false, false, false, false, false, false, false, false, false, false, false] rfl rfl (take_ofW HT_.out HW_.out (by kernel_rfl)) (fun _ _ _ h => h) (Or.inl ⟨by rfl, ?_⟩) hHeld ?_ ?_
                  rotate_left
                  ·rintro w' ⟨s0, s1, s2, s3, s4, s5, s6, s7, s8, s9, s10, s11, s12, s13, s14, s15, s16, s17⟩
                   go_simp
                   with_reducible rfl
                  rotate_left
                  ·simp only [Act.put, List.setIfInBounds_toArray, List.set_cons_zero, List.set_cons_succ, i64_w, i32_w]
                   rfl
                  refine pure_ (i := 22) (N := some 106) (v := ?_) (a' := ?_) #[true, true, true, true, true, true, true, true, true, true, true, true, true, true, true, true, true, true, true, true, true, true, true, false, false, false, false, false, false, false, false, false, false, false, false, false, false, false] rfl rfl (any_of HT_.out (by kernel_rfl)) (fun _ _ _ h => h) (Or.inl ⟨by rfl, ?_⟩) ?_ ?_
                  rotate_left
                  ·intro w'
                   go_simp
                   with_reducible rfl
                  rotate_left
                  ·simp only [Act.put, List.setIfInBounds_toArray, List.set_cons_zero, List.set_cons_succ, i64_w, i32_w]
                   rfl
                  refine pure_ (i := 23) (N := some 107) (v := ?_) (a' := ?_) #[true, true, true, true, true, true, true, true, true, true, true, true, true, true, true, true, true, true, true, true, true, true, true, true, false, false, false, false, false, false, false, false, false, false, false, false, false, false] rfl rfl (any_of HT_.out (by kernel_rfl)) (fun _ _ _ h => h) (Or.inl ⟨by rfl, ?_⟩) ?_ ?_
                  rotate_left
                  ·intro w'
                   go_simp
                   with_reducible rfl
                  rotate_left
                  ·simp only [Act.put, List.setIfInBounds_toArray, List.set_cons_zero, List.set_cons_succ, i64_w, i32_w]
                   rfl
                  refine pure_ (i := 24) (N := some 108) (v := ?_) (a' := ?_) #[true, true, true, true, true, true, true, true, true, true, true, true, true, true, true, true, true, true, true, true, true, true, true, true, true, false, false, false, false, false, false, false, false, false, false, false, false, false] rfl rfl (any_of HT_.out (by kernel_rfl)) (fun _ _ _ h => h) (Or.inl ⟨by rfl, ?_⟩) ?_ ?_
                  rotate_left
                  ·intro w'
                   go_simp
                   with_reducible rfl
                  rotate_left
                  ·simp only [Act.put, List.setIfInBounds_toArray, List.set_cons_zero, List.set_cons_succ, i64_w, i32_w]
                   rfl
                  refine pure_ (i := 25) (N := some 109) (v := ?_) (a' := ?_) #[true, true, true, true, true, true, true, true, true, true, true, true, true, true, true, true, true, true, true, true, true, true, true, true, true, true, false, false, false, false, false, false, false, false, false, false, false, false] rfl rfl (any_of HT_.out (by kernel_rfl)) (fun _ _ _ h => h) (Or.inl ⟨by rfl, ?_⟩) ?_ ?_
                  rotate_left
                  ·intro w'
                   go_simp
                   with_reducible rfl
                  rotate_left
                  ·simp only [Act.put, List.setIfInBounds_toArray, List.set_cons_zero, List.set_cons_succ, i64_w, i32_w]
                   rfl
                  refine pure_ (i := 26) (N := some 110) (v := ?_) (a' := ?_) #[true, true, true, true, true, true, true, true, true, true, true, true, true, true, true, true, true, true, true, true, true, true, true, true, true, true, true, false, false, false, false, false, false, false, false, false, false, false] rfl rfl (any_of HT_.out (by kernel_rfl)) (fun _ _ _ h => h) (Or.inl ⟨by rfl, ?_⟩) ?_ ?_
                  rotate_left
                  ·intro w'
                   go_simp
                   with_reducible rfl
                  rotate_left
                  ·simp only [Act.put, List.setIfInBounds_toArray, List.set_cons_zero, List.set_cons_succ, i64_w, i32_w]
                   rfl
                  refine pure_ (i := 27) (N := some 111) (v := ?_) (a' := ?_) #[true, true, true, true, true, true, true, true, true, true, true, true, true, true, true, true, true, true, true, true, true, true, true, true, true, true, true, true, false, false, false, false, false, false, false, false, false, false] rfl rfl (any_of HT_.out (by kernel_rfl)) (fun _ _ _ h => h) (Or.inl ⟨by rfl, ?_⟩) ?_ ?_
                  rotate_left
                  ·intro w'
                   go_simp
                   with_reducible rfl
                  rotate_left
                  ·simp only [Act.put, List.setIfInBounds_toArray, List.set_cons_zero, List.set_cons_succ, i64_w, i32_w]
                   rfl
                  refine pure_ (i := 28) (N := some 112) (v := ?_) (a' := ?_) #[true, true, true, true, true, true, true, true, true, true, true, true, true, true, true, true, true, true, true, true, true, true, true, true, true, true, true, true, true, false, false, false, false, false, false, false, false, false] rfl rfl (any_of HT_.out (by kernel_rfl)) (fun _ _ _ h => h) (Or.inl ⟨by rfl, ?_⟩) ?_ ?_
                  rotate_left
                  ·intro w'
                   go_simp
                   with_reducible rfl
                  rotate_left
                  ·simp only [Act.put, List.setIfInBounds_toArray, List.set_cons_zero, List.set_cons_succ, i64_w, i32_w]
                   rfl
                  refine pure_ (i := 29) (N := some 113) (v := ?_) (a' := ?_) #[true, true, true, true, true, true, true, true, true, true, true, true, true, true, true, true, true, true, true, true, true, true, true, true, true, true, true, true, true, true, false, false, false, false, false, false, false, false] rfl rfl (any_of HT_.out (by kernel_rfl)) (fun _ _ _ h => h) (Or.inl ⟨by rfl, ?_⟩) ?_ ?_
                  rotate_left
                  ·intro w'
                   go_simp
                   with_reducible rfl
                  rotate_left
                  ·simp only [Act.put, List.setIfInBounds_toArray, List.set_cons_zero, List.set_cons_succ, i64_w, i32_w]
                   rfl
                  refine pure_ (i := 31) (N := some 115) (v := ?_) (a' := ?_) #[true, true, true, true, true, true, true, true, true, true, true, true, true, true, true, true, true, true, true, true, true, true, true, true, true, true, true, true, true, true, false, true, false, false, false, false, false, false] rfl rfl (any_of HT_.out (by kernel_rfl)) (fun _ _ _ h => h) (Or.inl ⟨by rfl, ?_⟩) ?_ ?_
                  rotate_left
                  ·intro w'
                   go_simp
                   with_reducible rfl
                  rotate_left
                  ·simp only [Act.put, List.setIfInBounds_toArray, List.set_cons_zero, List.set_cons_succ, i64_w, i32_w]
                   rfl
                  refine pure_ (i := 32) (N := some 116) (v := ?_) (a' := ?_) #[true, true, true, true, true, true, true, true, true, true, true, true, true, true, true, true, true, true, true, true, true, true, true, true, true, true, true, true, true, true, false, true, true, false, false, false, false, false] rfl rfl (any_of HT_.out (by kernel_rfl)) (fun _ _ _ h => h) (Or.inl ⟨by rfl, ?_⟩) ?_ ?_
                  rotate_left
                  ·intro w'
                   go_simp
                   with_reducible rfl
                  rotate_left
                  ·simp only [Act.put, List.setIfInBounds_toArray, List.set_cons_zero, List.set_cons_succ, i64_w, i32_w]
                   rfl
                  refine pure_ (i := 33) (N := some 117) (v := ?_) (a' := ?_) #[true, true, true, true, true, true, true, true, true, true, true, true, true, true, true, true, true, true, true, true, true, true, true, true, true, true, true, true, true, true, false, true, true, true, false, false, false, false] rfl rfl (any_of HT_.out (by kernel_rfl)) (fun _ _ _ h => h) (Or.inl ⟨by rfl, ?_⟩) ?_ ?_
                  rotate_left
                  ·intro w'
                   go_simp
                   with_reducible rfl
                  rotate_left
                  ·simp only [Act.put, List.setIfInBounds_toArray, List.set_cons_zero, List.set_cons_succ, i64_w, i32_w]
                   rfl
                  refine pure_ (i := 34) (N := some 118) (v := ?_) (a' := ?_) #[true, true, true, true, true, true, true, true, true, true, true, true, true, true, true, true, true, true, true, true, true, true, true, true, true, true, true, true, true, true, false, true, true, true, true, false, false, false] rfl rfl (any_of HT_.out (by kernel_rfl)) (fun _ _ _ h => h) (Or.inl ⟨by rfl, ?_⟩) ?_ ?_
                  rotate_left
                  ·intro w'
                   go_simp
                   with_reducible rfl
                  rotate_left
                  ·simp only [Act.put, List.setIfInBounds_toArray, List.set_cons_zero, List.set_cons_succ, i64_w, i32_w]
                   rfl
                  refine take_ (i := 30) (N := some 114) (v := ?_) (a' := ?_) #[true, true, true, true, true, true, true, true, true, true, true, true, true, true, true, true, true, true, true, true, true, true, true, true, true, true, true, true, true, true, true, true, true, true, true, false, false, false] rfl rfl (take_ofW HT_.out HW_.out (by kernel_rfl)) (fun _ _ _ h => h) (Or.inl ⟨by rfl, ?_⟩) hHeld ?_ ?_
                  rotate_left
                  ·rintro w' ⟨s0, s1, s2, s3, s4, s5, s6, s7, s8, s9, s10, s11, s12, s13, s14, s15, s16, s17⟩
                   go_simp
                   with_reducible rfl
                  rotate_left
                  ·simp only [Act.put, List.setIfInBounds_toArray, List.set_cons_zero, List.set_cons_succ, i64_w, i32_w]
                   rfl
                  refine take_ (i := 35) (N := some 119) (v := ?_) (a' := ?_) #[true, true, true, true, true, true, true, true, true, true, true, true, true, true, true, true, true, true, true, true, true, true, true, true, true, true, true, true, true, true, true, true, true, true, true, true, false, false] rfl rfl (take_ofW HT_.out HW_.out (by kernel_rfl)) (fun _ _ _ h => h) (Or.inl ⟨by rfl, ?_⟩) hHeld ?_ ?_
                  rotate_left
                  ·rintro w' ⟨s0, s1, s2, s3, s4, s5, s6, s7, s8, s9, s10, s11, s12, s13, s14, s15, s16, s17⟩
                   go_simp
                   with_reducible rfl
                  rotate_left
                  ·simp only [Act.put, List.setIfInBounds_toArray, List.set_cons_zero, List.set_cons_succ, i64_w, i32_w]
                   rfl
                  refine pure_ (i := 36) (N := some 120) (v := ?_) (a' := ?_) #[true, true, true, true, true, true, true, true, true, true, true, true, true, true, true, true, true, true, true, true, true, true, true, true, true, true, true, true, true, true, true, true, true, true, true, true, true, false] rfl rfl (any_of HT_.out (by kernel_rfl)) (fun _ _ _ h => h) (Or.inl ⟨by rfl, ?_⟩) ?_ ?_
                  rotate_left
                  ·intro w'
                   go_simp
                   with_reducible rfl
                  rotate_left
                  ·simp only [Act.put, List.setIfInBounds_toArray, List.set_cons_zero, List.set_cons_succ, i64_w, i32_w]
                   rfl
                  refine pure_ (i := 37) (N := some 121) (v := ?_) (a' := ?_) #[true, true, true, true, true, true, true, true, true, true, true, true, true, true, true, true, true, true, true, true, true, true, true, true, true, true, true, true, true, true, true, true, true, true, true, true, true, true] rfl rfl (any_of HT_.out (by kernel_rfl)) (fun _ _ _ h => h) (Or.inl ⟨by rfl, ?_⟩) ?_ ?_
                  rotate_left
                  ·intro w'
                   go_simp
                   with_reducible rfl
                  rotate_left
                  ·simp only [Act.put, List.setIfInBounds_toArray, List.set_cons_zero, List.set_cons_succ, i64_w, i32_w]
                   rfl
                  refine done_ (done_of HT_.out (by kernel_rfl)) ?_
                  try go_wp2
                  go_roundg k4
                  case measure => have := HJ2.out; have := HJ33.out; have := HJ69.out; have := HK4.out; omega
                  case rel => exact ⟨(wrap64 (x81_4 + 1)), (by first | rfl | (simp; done) | (simp [*]; done)), H', ⟨by have := HJ2.out; have := HJ33.out; have := HJ69.out; have := HK4.out; omega⟩, ⟨by (with_reducible repeat (first | apply Kd.R_alloc | apply Kd.R_drewN | apply Kd.R_drew)); exact HO_7.out⟩, ⟨by (with_reducible repeat (first | apply Kd.R_alloc | apply Kd.R_drewN | apply Kd.R_drew)); exact HO_9.out⟩, ⟨by (with_reducible repeat (first | refine blk_drewN ?_ _ | refine blk_drew ?_ | refine blk_alloc ?_ _)); exact BK315.out⟩, ⟨by (with_reducible repeat (first | refine blk_drewN ?_ _ | refine blk_drew ?_ | refine blk_alloc ?_ _)); exact BK316.out⟩, ⟨by (with_reducible repeat (first | refine blk_drewN ?_ _ | refine blk_drew ?_ | refine blk_alloc ?_ _)); exact BK324.out⟩, ⟨by (with_reducible repeat (first | refine blk_drewN ?_ _ | refine blk_drew ?_ | refine blk_alloc ?_ _)); exact BK325.out⟩, ⟨by repeat (first | (with_reducible first | exact HB.out | apply below_alloc | apply pw_below_drewN | apply below_drew1 | refine below_set ?_ GE315.out | refine below_set ?_ GE316.out | refine below_set ?_ GE324.out | refine below_set ?_ GE325.out) | exact HB.out)⟩⟩
                 ·rw [if_neg c95] at H
                  have c95b0 : (((rd_T23 t326 x81_4).f2) == ((rd_T23 t330 x81_4).f2)) = false := beq_eq_false_iff_ne.mpr c95
                  have c95b1 : (((rd_T23 t326 x81_4).f2) != ((rd_T23 t330 x81_4).f2)) = true := bne_iff_ne.mpr c95
                  obtain rfl := Option.some.inj H
                  try go_wp2
                  have n0_ := Aside0.mk (Kd.R_drew HO_7.out)
                  have n1_ := Aside0.mk (Kd.R_drew HO_9.out)
                  have n2_ := Aside0.mk (blk_drew BK315.out)
                  have n3_ := Aside0.mk (blk_drew BK316.out)
                  have n4_ := Aside0.mk (blk_drew BK324.out)
                  have n5_ := Aside0.mk (blk_drew BK325.out)
                  have n6_ := Aside0.mk (below_drew1 HB.out)
                  clear HO_7
                  clear HO_9
                  clear BK315
                  clear BK316
                  clear BK324
                  clear BK325
                  clear HB
                  have HO_7 := n0_
                  have HO_9 := n1_
                  have BK315 := n2_
                  have BK316 := n3_
                  have BK324 := n4_
                  have BK325 := n5_
                  have HB := n6_
                  clear n0_ n1_ n2_ n3_ n4_ n5_ n6_
                  have p334 : 0 ≤ (x81_4 : Int) := of_decide_eq_true (by first | (with_reducible assumption) | assumption)
                  have q334 : x81_4 < (t326.length : Int) := of_decide_eq_true (by first | (with_reducible assumption) | assumption)
                  obtain ⟨ad334, e334, hx334_0, hx334_1, hx334_2⟩ := at_T23 (Kd.R_reads' HO_7.out).2.2 x81_4 p334 q334
                  cases e334
                  replace p334 := eq_true p334
                  replace q334 := eq_true q334
                  obtain ⟨Ao99, co99, eo99⟩ := Kd.R_slice HO_9.out
                  (first | subst eo99 | (injection eo99 with f1_ f2_ f3_; have f4_ := f1_.symm; have f5_ := f3_.symm; clear f1_ f2_ f3_; subst f4_; subst f5_))
                  have p335 : 0 ≤ (x81_4 : Int) := of_decide_eq_true (by first | (with_reducible assumption) | assumption)
                  have q335 : x81_4 < (t330.length : Int) := of_decide_eq_true (by first | (with_reducible assumption) | assumption)
                  obtain ⟨ad335, e335, hx335_0, hx335_1, hx335_2⟩ := at_T23 (Kd.R_reads' HO_9.out).2.2 x81_4 p335 q335
                  cases e335
                  replace p335 := eq_true p335
                  replace q335 := eq_true q335
                  have p336 : 0 ≤ (x81_4 : Int) := of_decide_eq_true (by first | (with_reducible assumption) | assumption)
                  have q336 : x81_4 < (t326.length : Int) := of_decide_eq_true (by first | (with_reducible assumption) | assumption)
                  obtain ⟨ad336, e336, hx336_0, hx336_1, hx336_2⟩ := at_T23 (Kd.R_reads' HO_7.out).2.2 x81_4 p336 q336
                  obtain rfl : ad334 = ad336 := (by injection e336)
                  replace p336 := eq_true p336
                  replace q336 := eq_true q336
                  have p337 : 0 ≤ (x81_4 : Int) := of_decide_eq_true (by first | (with_reducible assumption) | assumption)
                  have q337 : x81_4 < (t330.length : Int) := of_decide_eq_true (by first | (with_reducible assumption) | assumption)
                  obtain ⟨ad337, e337, hx337_0, hx337_1, hx337_2⟩ := at_T23 (Kd.R_reads' HO_9.out).2.2 x81_4 p337 q337
                  obtain rfl : ad335 = ad337 := (by injection e337)
                  replace p337 := eq_true p337
                  replace q337 := eq_true q337
                  have p338 : 0 ≤ (x81_4 : Int) := of_decide_eq_true (by first | (with_reducible assumption) | assumption)
                  have q338 : x81_4 < (t326.length : Int) := of_decide_eq_true (by first | (with_reducible assumption) | assumption)
                  obtain ⟨ad338, e338, hx338_0, hx338_1, hx338_2⟩ := at_T23 (Kd.R_reads' HO_7.out).2.2 x81_4 p338 q338
                  obtain rfl : ad334 = ad338 := (by injection e338)
                  replace p338 := eq_true p338
                  replace q338 := eq_true q338
                  have p339 : 0 ≤ (x81_4 : Int) := of_decide_eq_true (by first | (with_reducible assumption) | assumption)
                  have q339 : x81_4 < (t330.length : Int) := of_decide_eq_true (by first | (with_reducible assumption) | assumption)
                  obtain ⟨ad339, e339, hx339_0, hx339_1, hx339_2⟩ := at_T23 (Kd.R_reads' HO_9.out).2.2 x81_4 p339 q339
                  obtain rfl : ad335 = ad339 := (by injection e339)
                  replace p339 := eq_true p339
                  replace q339 := eq_true q339
                  refine start_ (n := 38) (S := fun w' => w'.cell? (ad334.add ((x81_4).toNat * 3)) = some (.int .i64 ((rd_T23 t326 x81_4).f0)) ∧ w'.cell? ⟨(ad334.add ((x81_4).toNat * 3)).block, (ad334.add ((x81_4).toNat * 3)).off + 1, none⟩ = some (.int .i64 ((rd_T23 t326 x81_4).f1)) ∧ w'.cell? ⟨(ad334.add ((x81_4).toNat * 3)).block, (ad334.add ((x81_4).toNat * 3)).off + 2, none⟩ = some (.int .i64 ((rd_T23 t326 x81_4).f2)) ∧ w'.cell? (ad335.add ((x81_4).toNat * 3)) = some (.int .i64 ((rd_T23 t330 x81_4).f0)) ∧ w'.cell? ⟨(ad335.add ((x81_4).toNat * 3)).block, (ad335.add ((x81_4).toNat * 3)).off + 1, none⟩ = some (.int .i64 ((rd_T23 t330 x81_4).f1)) ∧ w'.cell? ⟨(ad335.add ((x81_4).toNat * 3)).block, (ad335.add ((x81_4).toNat * 3)).off + 2, none⟩ = some (.int .i64 ((rd_T23 t330 x81_4).f2)) ∧ w'.cell? (ad334.add ((x81_4).toNat * 3)) = some (.int .i64 ((rd_T23 t326 x81_4).f0)) ∧ w'.cell? ⟨(ad334.add ((x81_4).toNat * 3)).block, (ad334.add ((x81_4).toNat * 3)).off + 1, none⟩ = some (.int .i64 ((rd_T23 t326 x81_4).f1)) ∧ w'.cell? ⟨(ad334.add ((x81_4).toNat * 3)).block, (ad334.add ((x81_4).toNat * 3)).off + 2, none⟩ = some (.int .i64 ((rd_T23 t326 x81_4).f2)) ∧ w'.cell? (ad335.add ((x81_4).toNat * 3)) = some (.int .i64 ((rd_T23 t330 x81_4).f0)) ∧ w'.cell? ⟨(ad335.add ((x81_4).toNat * 3)).block, (ad335.add ((x81_4).toNat * 3)).off + 1, none⟩ = some (.int .i64 ((rd_T23 t330 x81_4).f1)) ∧ w'.cell? ⟨(ad335.add ((x81_4).toNat * 3)).block, (ad335.add ((x81_4).toNat * 3)).off + 2, none⟩ = some (.int .i64 ((rd_T23 t330 x81_4).f2)) ∧ w'.cell? (ad334.add ((x81_4).toNat * 3)) = some (.int .i64 ((rd_T23 t326 x81_4).f0)) ∧ w'.cell? ⟨(ad334.add ((x81_4).toNat * 3)).block, (ad334.add ((x81_4).toNat * 3)).off + 1, none⟩ = some (.int .i64 ((rd_T23 t326 x81_4).f1)) ∧ w'.cell? ⟨(ad334.add ((x81_4).toNat * 3)).block, (ad334.add ((x81_4).toNat * 3)).off + 2, none⟩ = some (.int .i64 ((rd_T23 t326 x81_4).f2)) ∧ w'.cell? (ad335.add ((x81_4).toNat * 3)) = some (.int .i64 ((rd_T23 t330 x81_4).f0)) ∧ w'.cell? ⟨(ad335.add ((x81_4).toNat * 3)).block, (ad335.add ((x81_4).toNat * 3)).off + 1, none⟩ = some (.int .i64 ((rd_T23 t330 x81_4).f1)) ∧ w'.cell? ⟨(ad335.add ((x81_4).toNat * 3)).block, (ad335.add ((x81_4).toNat * 3)).off + 2, none⟩ = some (.int .i64 ((rd_T23 t330 x81_4).f2))) (ds := []) #[false, false, false, false, false, false, false, false, false, false, false, false, false, false, false, false, false, false, false, false, false, false, false, false, false, false, false, false, false, false, false, false, false, false, false, false, false, false] (by kernel_rfl) rfl rfl ⟨hx334_0, hx334_1, hx334_2, hx335_0, hx335_1, hx335_2, hx336_0, hx336_1, hx336_2, hx337_0, hx337_1, hx337_2, hx338_0, hx338_1, hx338_2, hx339_0, hx339_1, hx339_2⟩ (fun hHeld => ?_); refine with_tabW swarflaw33_InterpolateMirrored.tab18 swarflaw33_InterpolateMirrored.bits18 (fun HT_ HW_ => ?_)
                  generalize wr.drew = w98 at HO_7 HO_9 BK315 BK316 BK324 BK325 HB hx334_0 hx334_1 hx334_2 hx335_0 hx335_1 hx335_2 hx336_0 hx336_1 hx336_2 hx337_0 hx337_1 hx337_2 hx338_0 hx338_1 hx338_2 hx339_0 hx339_1 hx339_2 hHeld ⊢
                  refine pure_ (i := 0) (N := some 84) (v := ?_) (a' := ?_) #[true, false, false, false, false, false, false, false, false, false, false, false, false, false, false, false, false, false, false, false, false, false, false, false, false, false, false, false, false, false, false, false, false, false, false, false, false, false] rfl rfl (any_of HT_.out (by kernel_rfl)) (fun _ _ _ h => h) (Or.inl ⟨by rfl, ?_⟩) ?_ ?_
                  rotate_left
                  ·intro w'
                   go_simp
                   with_reducible rfl
                  rotate_left
                  ·simp only [Act.put, List.setIfInBounds_toArray, List.set_cons_zero, List.set_cons_succ, i64_w, i32_w]
                   rfl
                  refine pure_ (i := 1) (N := some 85) (v := ?_) (a' := ?_) #[true, true, false, false, false, false, false, false, false, false, false, false, false, false, false, false, false, false, false, false, false, false, false, false, false, false, false, false, false, false, false, false, false, false, false, false, false, false] rfl rfl (any_of HT_.out (by kernel_rfl)) (fun _ _ _ h => h) (Or.inl ⟨by rfl, ?_⟩) ?_ ?_
                  rotate_left
                  ·intro w'
                   go_simp
                   with_reducible rfl
                  rotate_left
                  ·simp only [Act.put, List.setIfInBounds_toArray, List.set_cons_zero, List.set_cons_succ, i64_w, i32_w]
                   rfl
                  refine pure_ (i := 2) (N := some 86) (v := ?_) (a' := ?_) #[true, true, true, false, false, false, false, false, false, false, false, false, false, false, false, false, false, false, false, false, false, false, false, false, false, false, false, false, false, false, false, false, false, false, false, false, false, false] rfl rfl (any_of HT_.out (by kernel_rfl)) (fun _ _ _ h => h) (Or.inl ⟨by rfl, ?_⟩) ?_ ?_
                  rotate_left
                  ·intro w'
                   go_simp
                   with_reducible rfl
                  rotate_left
                  ·simp only [Act.put, List.setIfInBounds_toArray, List.set_cons_zero, List.set_cons_succ, i64_w, i32_w]
                   rfl
                  refine pure_ (i := 3) (N := some 87) (v := ?_) (a' := ?_) #[true, true, true, true, false, false, false, false, false, false, false, false, false, false, false, false, false, false, false, false, false, false, false, false, false, false, false, false, false, false, false, false, false, false, false, false, false, false] rfl rfl (any_of HT_.out (by kernel_rfl)) (fun _ _ _ h => h) (Or.inl ⟨by rfl, ?_⟩) ?_ ?_
                  rotate_left
                  ·intro w'
                   go_simp
                   with_reducible rfl
                  rotate_left
                  ·simp only [Act.put, List.setIfInBounds_toArray, List.set_cons_zero, List.set_cons_succ, i64_w, i32_w]
                   rfl
                  refine pure_ (i := 5) (N := some 89) (v := ?_) (a' := ?_) #[true, true, true, true, false, true, false, false, false, false, false, false, false, false, false, false, false, false, false, false, false, false, false, false, false, false, false, false, false, false, false, false, false, false, false, false, false, false] rfl rfl (any_of HT_.out (by kernel_rfl)) (fun _ _ _ h => h) (Or.inl ⟨by rfl, ?_⟩) ?_ ?_
                  rotate_left
                  ·intro w'
                   go_simp
                   with_reducible rfl
                  rotate_left
                  ·simp only [Act.put, List.setIfInBounds_toArray, List.set_cons_zero, List.set_cons_succ, i64_w, i32_w]
                   rfl
                  refine pure_ (i := 6) (N := some 90) (v := ?_) (a' := ?_) #[true, true, true, true, false, true, true, false, false, false, false, false, false, false, false, false, false, false, false, false, false, false, false, false, false, false, false, false, false, false, false, false, false, false, false, false, false, false] rfl rfl (any_of HT_.out (by kernel_rfl)) (fun _ _ _ h => h) (Or.inl ⟨by rfl, ?_⟩) ?_ ?_
                  rotate_left
                  ·intro w'
                   go_simp
                   with_reducible rfl
                  rotate_left
                  ·simp only [Act.put, List.setIfInBounds_toArray, List.set_cons_zero, List.set_cons_succ, i64_w, i32_w]
                   rfl
                  refine pure_ (i := 7) (N := some 91) (v := ?_) (a' := ?_) #[true, true, true, true, false, true, true, true, false, false, false, false, false, false, false, false, false, false, false, false, false, false, false, false, false, false, false, false, false, false, false, false, false, false, false, false, false, false] rfl rfl (any_of HT_.out (by kernel_rfl)) (fun _ _ _ h => h) (Or.inl ⟨by rfl, ?_⟩) ?_ ?_
                  rotate_left
                  ·intro w'
                   go_simp
                   with_reducible rfl
                  rotate_left
                  ·simp only [Act.put, List.setIfInBounds_toArray, List.set_cons_zero, List.set_cons_succ, i64_w, i32_w]
                   rfl
                  refine pure_ (i := 8) (N := some 92) (v := ?_) (a' := ?_) #[true, true, true, true, false, true, true, true, true, false, false, false, false, false, false, false, false, false, false, false, false, false, false, false, false, false, false, false, false, false, false, false, false, false, false, false, false, false] rfl rfl (any_of HT_.out (by kernel_rfl)) (fun _ _ _ h => h) (Or.inl ⟨by rfl, ?_⟩) ?_ ?_
                  rotate_left
                  ·intro w'
                   go_simp
                   with_reducible rfl
                  rotate_left
                  ·simp only [Act.put, List.setIfInBounds_toArray, List.set_cons_zero, List.set_cons_succ, i64_w, i32_w]
                   rfl
                  refine take_ (i := 4) (N := some 88) (v := ?_) (a' := ?_) #[true, true, true, true, true, true, true, true, true, false, false, false, false, false, false, false, false, false, false, false, false, false, false, false, false, false, false, false, false, false, false, false, false, false, false, false, false, false] rfl rfl (take_ofW HT_.out HW_.out (by kernel_rfl)) (fun _ _ _ h => h) (Or.inl ⟨by rfl, ?_⟩) hHeld ?_ ?_
                  rotate_left
                  ·rintro w' ⟨s0, s1, s2, s3, s4, s5, s6, s7, s8, s9, s10, s11, s12, s13, s14, s15, s16, s17⟩
                   go_simp
                   with_reducible rfl
                  rotate_left
                  ·simp only [Act.put, List.setIfInBounds_toArray, List.set_cons_zero, List.set_cons_succ, i64_w, i32_w]
                   rfl
                  refine take_ (i := 9) (N := some 93) (v := ?_) (a' := ?_) #[true, true, true, true, true, true, true, true, true, true, false, false, false, false, false, false, false, false, false, false, false, false, false, false, false, false, false, false, false, false, false, false, false, false, false, false, false, false] rfl rfl (take_ofW HT_.out HW_.out (by kernel_rfl)) (fun _ _ _ h => h) (Or.inl ⟨by rfl, ?_⟩) hHeld ?_ ?_
                  rotate_left
                  ·rintro w' ⟨s0, s1, s2, s3, s4, s5, s6, s7, s8, s9, s10, s11, s12, s13, s14, s15, s16, s17⟩
                   go_simp
                   with_reducible rfl
                  rotate_left
                  ·simp only [Act.put, List.setIfInBounds_toArray, List.set_cons_zero, List.set_cons_succ, i64_w, i32_w]
                   rfl
                  refine pure_ (i := 10) (N := some 94) (v := ?_) (a' := ?_) #[true, true, true, true, true, true, true, true, true, true, true, false, false, false, false, false, false, false, false, false, false, false, false, false, false, false, false, false, false, false, false, false, false, false, false, false, false, false] rfl rfl (any_of HT_.out (by kernel_rfl)) (fun _ _ _ h => h) (Or.inl ⟨by rfl, ?_⟩) ?_ ?_
                  rotate_left
                  ·intro w'
                   go_simp
                   with_reducible rfl
                  rotate_left
                  ·simp only [Act.put, List.setIfInBounds_toArray, List.set_cons_zero, List.set_cons_succ, i64_w, i32_w]
                   rfl
                  refine pure_ (i := 11) (N := some 95) (v := ?_) (a' := ?_) #[true, true, true, true, true, true, true, true, true, true, true, true, false, false, false, false, false, false, false, false, false, false, false, false, false, false, false, false, false, false, false, false, false, false, false, false, false, false] rfl rfl (any_of HT_.out (by kernel_rfl)) (fun _ _ _ h => h) (Or.inl ⟨by rfl, ?_⟩) ?_ ?_
                  rotate_left
                  ·intro w'
                   go_simp
                   with_reducible rfl
                  rotate_left
                  ·simp only [Act.put, List.setIfInBounds_toArray, List.set_cons_zero, List.set_cons_succ, i64_w, i32_w]
                   rfl
                  refine pure_ (i := 12) (N := some 96) (v := ?_) (a' := ?_) #[true, true, true, true, true, true, true, true, true, true, true, true, true, false, false, false, false, false, false, false, false, false, false, false, false, false, false, false, false, false, false, false, false, false, false, false, false, false] rfl rfl (any_of HT_.out (by kernel_rfl)) (fun _ _ _ h => h) (Or.inl ⟨by rfl, ?_⟩) ?_ ?_
                  rotate_left
                  ·intro w'
                   go_simp
                   with_reducible rfl
                  rotate_left
                  ·simp only [Act.put, List.setIfInBounds_toArray, List.set_cons_zero, List.set_cons_succ, i64_w, i32_w]
                   rfl
                  refine pure_ (i := 13) (N := some 97) (v := ?_) (a' := ?_) #[true, true, true, true, true, true, true, true, true, true, true, true, true, true, false, false, false, false, false, false, false, false, false, false, false, false, false, false, false, false, false, false, false, false, false, false, false, false] rfl rfl (any_of HT_.out (by kernel_rfl)) (fun _ _ _ h => h) (Or.inl ⟨by rfl, ?_⟩) ?_ ?_
                  rotate_left
                  ·intro w'
                   go_simp
                   with_reducible rfl
                  rotate_left
                  ·simp only [Act.put, List.setIfInBounds_toArray, List.set_cons_zero, List.set_cons_succ, i64_w, i32_w]
                   rfl
                  refine pure_ (i := 14) (N := some 98) (v := ?_) (a' := ?_) #[true, true, true, true, true, true, true, true, true, true, true, true, true, true, true, false, false, false, false, false, false, false, false, false, false, false, false, false, false, false, false, false, false, false, false, false, false, false] rfl rfl (any_of HT_.out (by kernel_rfl)) (fun _ _ _ h => h) (Or.inl ⟨by rfl, ?_⟩) ?_ ?_
                  rotate_left
                  ·intro w'
                   go_simp
                   with_reducible rfl
                  rotate_left
                  ·simp only [Act.put, List.setIfInBounds_toArray, List.set_cons_zero, List.set_cons_succ, i64_w, i32_w]
                   rfl
                  refine pure_ (i := 15) (N := some 99) (v := ?_) (a' := ?_) #[true, true, true, true, true, true, true, true, true, true, true, true, true, true, true, true, false, false, false, false, false, false, false, false, false, false, false, false, false, false, false, false, false, false, false, false, false, false] rfl rfl (any_of HT_.out (by kernel_rfl)) (fun _ _ _ h => h) (Or.inl ⟨by rfl, ?_⟩) ?_ ?_
                  rotate_left
                  ·intro w'
                   go_simp
                   with_reducible rfl
                  rotate_left
                  ·simp only [Act.put, List.setIfInBounds_toArray, List.set_cons_zero, List.set_cons_succ, i64_w, i32_w]
                   rfl
                  refine pure_ (i := 17) (N := some 101) (v := ?_) (a' := ?_) #[true, true, true, true, true, true, true, true, true, true, true, true, true, true, true, true, false, true, false, false, false, false, false, false, false, false, false, false, false, false, false, false, false, false, false, false, false, false] rfl rfl (any_of HT_.out (by kernel_rfl)) (fun _ _ _ h => h) (Or.inl ⟨by rfl, ?_⟩) ?_ ?_
                  rotate_left
                  ·intro w'
                   go_simp
                   with_reducible rfl
                  rotate_left
                  ·simp only [Act.put, List.setIfInBounds_toArray, List.set_cons_zero, List.set_cons_succ, i64_w, i32_w]
                   rfl
                  refine pure_ (i := 18) (N := some 102) (v := ?_) (a' := ?_) #[true, true, true, true, true, true, true, true, true, true, true, true, true, true, true, true, false, true, true, false, false, false, false, false, false, false, false, false, false, false, false, false, false, false, false, false, false, false] rfl rfl (any_of HT_.out (by kernel_rfl)) (fun _ _ _ h => h) (Or.inl ⟨by rfl, ?_⟩) ?_ ?_
                  rotate_left
                  ·intro w'
                   go_simp
                   with_reducible rfl
                  rotate_left
                  ·simp only [Act.put, List.setIfInBounds_toArray, List.set_cons_zero, List.set_cons_succ, i64_w, i32_w]
                   rfl
                  refine pure_ (i := 19) (N := some 103) (v := ?_) (a' := ?_) #[true, true, true, true, true, true, true, true, true, true, true, true, true, true, true, true, false, true, true, true, false, false, false, false, false, false, false, false, false, false, false, false, false, false, false, false, false, false] rfl rfl (any_of HT_.out (by kernel_rfl)) (fun _ _ _ h => h) (Or.inl ⟨by rfl, ?_⟩) ?_ ?_
                  rotate_left
                  ·intro w'
                   go_simp
                   with_reducible rfl
                  rotate_left
                  ·simp only [Act.put, List.setIfInBounds_toArray, List.set_cons_zero, List.set_cons_succ, i64_w, i32_w]
                   rfl
                  refine pure_ (i := 20) (N := some 104) (v := ?_) (a' := ?_) #[true, true, true, true, true, true, true, true, true, true, true, true, true, true, true, true, false, true, true, true, true, false, false, false, false, false, false, false, false, false, false, false, false, false, false, false, false, false] rfl rfl (any_of HT_.out (by kernel_rfl)) (fun _ _ _ h => h) (Or.inl ⟨by rfl, ?_⟩) ?_ ?_
                  rotate_left
                  ·intro w'
                   go_simp
                   with_reducible rfl
                  rotate_left
                  ·simp only [Act.put, List.setIfInBounds_toArray, List.set_cons_zero, List.set_cons_succ, i64_w, i32_w]
                   rfl
                  refine take_ (i := 16) (N := some 100) (v := ?_) (a' := ?_) #[true, true, true, true, true, true, true, true, true, true, true, true, true, true, true, true, true, true, true, true, true, false, false, false, false, false, false, false, false, false, false, false, false, false, false, false, false, false] rfl rfl (take_ofW HT_.out HW_.out (by kernel_rfl)) (fun _ _ _ h => h) (Or.inl ⟨by rfl, ?_⟩) hHeld ?_ ?_
                  rotate_left
                  ·rintro w' ⟨s0, s1, s2, s3, s4, s5, s6, s7, s8, s9, s10, s11, s12, s13, s14, s15, s16, s17⟩
                   go_simp
                   with_reducible rfl
                  rotate_left
                  ·simp only [Act.put, List.setIfInBounds_toArray, List.set_cons_zero, List.set_cons_succ, i64_w, i32_w]
                   rfl
                  refine take_ (i := 21) (N := some 105) (v := ?_) (a' := ?_) #[true, true, true, true, true, true, true, true, true, true, true, true, true, true, true, true, true, true, true, true, true, true, false, false, false, false, false, false, false, false, false, false, false, false, false, false, false, false] rfl rfl (take_ofW HT_.out HW_.out (by kernel_rfl)) (fun _ _ _ h => h) (Or.inl ⟨by rfl, ?_⟩) hHeld ?_ ?_
                  rotate_left
                  ·rintro w' ⟨s0, s1, s2, s3, s4, s5, s6, s7, s8, s9, s10, s11, s12, s13, s14, s15, s16, s17⟩
                   go_simp
                   with_reducible rfl
                  rotate_left
                  ·simp only [Act.put, List.setIfInBounds_toArray, List.set_cons_zero, List.set_cons_succ, i64_w, i32_w]
                   rfl
                  refine pure_ (i := 22) (N := some 106) (v := ?_) (a' := ?_) #[true, true, true, true, true, true, true, true, true, true, true, true, true, true, true, true, true, true, true, true, true, true, true, false, false, false, false, false, false, false, false, false, false, false, false, false, false, false] rfl rfl (any_of HT_.out (by kernel_rfl)) (fun _ _ _ h => h) (Or.inl ⟨by rfl, ?_⟩) ?_ ?_
                  rotate_left
                  ·intro w'
                   go_simp
                   with_reducible rfl
                  rotate_left
                  ·simp only [Act.put, List.setIfInBounds_toArray, List.set_cons_zero, List.set_cons_succ, i64_w, i32_w]
                   rfl
                  refine pure_ (i := 23) (N := some 107) (v := ?_) (a' := ?_) #[true, true, true, true, true, true, true, true, true, true, true, true, true, true, true, true, true, true, true, true, true, true, true, true, false, false, false, false, false, false, false, false, false, false, false, false, false, false] rfl rfl (any_of HT_.out (by kernel_rfl)) (fun _ _ _ h => h) (Or.inl ⟨by rfl, ?_⟩) ?_ ?_
                  rotate_left
                  ·intro w'
                   go_simp
                   with_reducible rfl
                  rotate_left
                  ·simp only [Act.put, List.setIfInBounds_toArray, List.set_cons_zero, List.set_cons_succ, i64_w, i32_w]
                   rfl
                  refine pure_ (i := 24) (N := some 108) (v := ?_) (a' := ?_) #[true, true, true, true, true, true, true, true, true, true, true, true, true, true, true, true, true, true, true, true, true, true, true, true, true, false, false, false, false, false, false, false, false, false, false, false, false, false] rfl rfl (any_of HT_.out (by kernel_rfl)) (fun _ _ _ h => h) (Or.inl ⟨by rfl, ?_⟩) ?_ ?_
                  rotate_left
                  ·intro w'
                   go_simp
                   with_reducible rfl
                  rotate_left
                  ·simp only [Act.put, List.setIfInBounds_toArray, List.set_cons_zero, List.set_cons_succ, i64_w, i32_w]
                   rfl
                  refine pure_ (i := 25) (N := some 109) (v := ?_) (a' := ?_) #[true, true, true, true, true, true, true, true, true, true, true, true, true, true, true, true, true, true, true, true, true, true, true, true, true, true, false, false, false, false, false, false, false, false, false, false, false, false] rfl rfl (any_of HT_.out (by kernel_rfl)) (fun _ _ _ h => h) (Or.inl ⟨by rfl, ?_⟩) ?_ ?_
                  rotate_left
                  ·intro w'
                   go_simp
                   with_reducible rfl
                  rotate_left
                  ·simp only [Act.put, List.setIfInBounds_toArray, List.set_cons_zero, List.set_cons_succ, i64_w, i32_w]
                   rfl
                  refine pure_ (i := 26) (N := some 110) (v := ?_) (a' := ?_) #[true, true, true, true, true, true, true, true, true, true, true, true, true, true, true, true, true, true, true, true, true, true, true, true, true, true, true, false, false, false, false, false, false, false, false, false, false, false] rfl rfl (any_of HT_.out (by kernel_rfl)) (fun _ _ _ h => h) (Or.inl ⟨by rfl, ?_⟩) ?_ ?_
                  rotate_left
                  ·intro w'
                   go_simp
                   with_reducible rfl
                  rotate_left
                  ·simp only [Act.put, List.setIfInBounds_toArray, List.set_cons_zero, List.set_cons_succ, i64_w, i32_w]
                   rfl
                  refine pure_ (i := 27) (N := some 111) (v := ?_) (a' := ?_) #[true, true, true, true, true, true, true, true, true, true, true, true, true, true, true, true, true, true, true, true, true, true, true, true, true, true, true, true, false, false, false, false, false, false, false, false, false, false] rfl rfl (any_of HT_.out (by kernel_rfl)) (fun _ _ _ h => h) (Or.inl ⟨by rfl, ?_⟩) ?_ ?_
                  rotate_left
                  ·intro w'
                   go_simp
                   with_reducible rfl
                  rotate_left
                  ·simp only [Act.put, List.setIfInBounds_toArray, List.set_cons_zero, List.set_cons_succ, i64_w, i32_w]
                   rfl
                  refine pure_ (i := 28) (N := some 112) (v := ?_) (a' := ?_) #[true, true, true, true, true, true, true, true, true, true, true, true, true, true, true, true, true, true, true, true, true, true, true, true, true, true, true, true, true, false, false, false, false, false, false, false, false, false] rfl rfl (any_of HT_.out (by kernel_rfl)) (fun _ _ _ h => h) (Or.inl ⟨by rfl, ?_⟩) ?_ ?_
                  rotate_left
                  ·intro w'
                   go_simp
                   with_reducible rfl
                  rotate_left
                  ·simp only [Act.put, List.setIfInBounds_toArray, List.set_cons_zero, List.set_cons_succ, i64_w, i32_w]
                   rfl
                  refine pure_ (i := 29) (N := some 113) (v := ?_) (a' := ?_) #[true, true, true, true, true, true, true, true, true, true, true, true, true, true, true, true, true, true, true, true, true, true, true, true, true, true, true, true, true, true, false, false, false, false, false, false, false, false] rfl rfl (any_of HT_.out (by kernel_rfl)) (fun _ _ _ h => h) (Or.inl ⟨by rfl, ?_⟩) ?_ ?_
                  rotate_left
                  ·intro w'
                   go_simp
                   with_reducible rfl
                  rotate_left
                  ·simp only [Act.put, List.setIfInBounds_toArray, List.set_cons_zero, List.set_cons_succ, i64_w, i32_w]
                   rfl
                  refine pure_ (i := 31) (N := some 115) (v := ?_) (a' := ?_) #[true, true, true, true, true, true, true, true, true, true, true, true, true, true, true, true, true, true, true, true, true, true, true, true, true, true, true, true, true, true, false, true, false, false, false, false, false, false] rfl rfl (any_of HT_.out (by kernel_rfl)) (fun _ _ _ h => h) (Or.inl ⟨by rfl, ?_⟩) ?_ ?_
                  rotate_left
                  ·intro w'
                   go_simp
                   with_reducible rfl
                  rotate_left
                  ·simp only [Act.put, List.setIfInBounds_toArray, List.set_cons_zero, List.set_cons_succ, i64_w, i32_w]
                   rfl
                  refine pure_ (i := 32) (N := some 116) (v := ?_) (a' := ?_) #[true, true, true, true, true, true, true, true, true, true, true, true, true, true, true, true, true, true, true, true, true, true, true, true, true, true, true, true, true, true, false, true, true, false, false, false, false, false] rfl rfl (any_of HT_.out (by kernel_rfl)) (fun _ _ _ h => h) (Or.inl ⟨by rfl, ?_⟩) ?_ ?_
                  rotate_left
                  ·intro w'
                   go_simp
                   with_reducible rfl
                  rotate_left
                  ·simp only [Act.put, List.setIfInBounds_toArray, List.set_cons_zero, List.set_cons_succ, i64_w, i32_w]
                   rfl
                  refine pure_ (i := 33) (N := some 117) (v := ?_) (a' := ?_) #[true, true, true, true, true, true, true, true, true, true, true, true, true, true, true, true, true, true, true, true, true, true, true, true, true, true, true, true, true, true, false, true, true, true, false, false, false, false] rfl rfl (any_of HT_.out (by kernel_rfl)) (fun _ _ _ h => h) (Or.inl ⟨by rfl, ?_⟩) ?_ ?_
                  rotate_left
                  ·intro w'
                   go_simp
                   with_reducible rfl
                  rotate_left
                  ·simp only [Act.put, List.setIfInBounds_toArray, List.set_cons_zero, List.set_cons_succ, i64_w, i32_w]
                   rfl
                  refine pure_ (i := 34) (N := some 118) (v := ?_) (a' := ?_) #[true, true, true, true, true, true, true, true, true, true, true, true, true, true, true, true, true, true, true, true, true, true, true, true, true, true, true, true, true, true, false, true, true, true, true, false, false, false] rfl rfl (any_of HT_.out (by kernel_rfl)) (fun _ _ _ h => h) (Or.inl ⟨by rfl, ?_⟩) ?_ ?_
                  rotate_left
                  ·intro w'
                   go_simp
                   with_reducible rfl
                  rotate_left
                  ·simp only [Act.put, List.setIfInBounds_toArray, List.set_cons_zero, List.set_cons_succ, i64_w, i32_w]
                   rfl
                  refine take_ (i := 30) (N := some 114) (v := ?_) (a' := ?_) #[true, true, true, true, true, true, true, true, true, true, true, true, true, true, true, true, true, true, true, true, true, true, true, true, true, true, true, true, true, true, true, true, true, true, true, false, false, false] rfl rfl (take_ofW HT_.out HW_.out (by kernel_rfl)) (fun _ _ _ h => h) (Or.inl ⟨by rfl, ?_⟩) hHeld ?_ ?_
                  rotate_left
                  ·rintro w' ⟨s0, s1, s2, s3, s4, s5, s6, s7, s8, s9, s10, s11, s12, s13, s14, s15, s16, s17⟩
                   go_simp
                   with_reducible rfl
                  rotate_left
                  ·simp only [Act.put, List.setIfInBounds_toArray, List.set_cons_zero, List.set_cons_succ, i64_w, i32_w]
                   rfl
                  refine take_ (i := 35) (N := some 119) (v := ?_) (a' := ?_) #[true, true, true, true, true, true, true, true, true, true, true, true, true, true, true, true, true, true, true, true, true, true, true, true, true, true, true, true, true, true, true, true, true, true, true, true, false, false] rfl rfl (take_ofW HT_.out HW_.out (by kernel_rfl)) (fun _ _ _ h => h) (Or.inl ⟨by rfl, ?_⟩) hHeld ?_ ?_
                  rotate_left
                  ·rintro w' ⟨s0, s1, s2, s3, s4, s5, s6, s7, s8, s9, s10, s11, s12, s13, s14, s15, s16, s17⟩
                   go_simp
                   with_reducible rfl
                  rotate_left
                  ·simp only [Act.put, List.setIfInBounds_toArray, List.set_cons_zero, List.set_cons_succ, i64_w, i32_w]
                   rfl
                  refine pure_ (i := 36) (N := some 120) (v := ?_) (a' := ?_) #[true, true, true, true, true, true, true, true, true, true, true, true, true, true, true, true, true, true, true, true, true, true, true, true, true, true, true, true, true, true, true, true, true, true, true, true, true, false] rfl rfl (any_of HT_.out (by kernel_rfl)) (fun _ _ _ h => h) (Or.inl ⟨by rfl, ?_⟩) ?_ ?_
                  rotate_left
                  ·intro w'
                   go_simp
                   with_reducible rfl
                  rotate_left
                  ·simp only [Act.put, List.setIfInBounds_toArray, List.set_cons_zero, List.set_cons_succ, i64_w, i32_w]
                   rfl
                  refine pure_ (i := 37) (N := some 121) (v := ?_) (a' := ?_) #[true, true, true, true, true, true, true, true, true, true, true, true, true, true, true, true, true, true, true, true, true, true, true, true, true, true, true, true, true, true, true, true, true, true, true, true, true, true] rfl rfl (any_of HT_.out (by kernel_rfl)) (fun _ _ _ h => h) (Or.inl ⟨by rfl, ?_⟩) ?_ ?_
                  rotate_left
                  ·intro w'
                   go_simp
                   with_reducible rfl
                  rotate_left
                  ·simp only [Act.put, List.setIfInBounds_toArray, List.set_cons_zero, List.set_cons_succ, i64_w, i32_w]
                   rfl
                  refine done_ (done_of HT_.out (by kernel_rfl)) ?_
                  try go_wp2
                  go_ret
                  exact ⟨by first | rfl | (simp [errW_none, errW_some] <;> rfl) | (simp [*, errW_none, errW_some] <;> rfl), by repeat (first | (with_reducible first | exact HB.out | apply below_alloc | apply pw_below_drewN | apply below_drew1 | refine below_set ?_ GE315.out | refine below_set ?_ GE316.out | refine below_set ?_ GE324.out | refine below_set ?_ GE325.out) | exact HB.out)⟩
                ·rw [if_neg c94] at H
                 have c94b0 : (((rd_T23 t326 x81_4).f1) == (wrap64 (-((rd_T23 t330 x81_4).f1)))) = false := beq_eq_false_iff_ne.mpr c94
                 have c94b1 : (((rd_T23 t326 x81_4).f1) != (wrap64 (-((rd_T23 t330 x81_4).f1)))) = true := bne_iff_ne.mpr c94
                 obtain rfl := Option.some.inj H
                 try go_wp2
                 have n0_ := Aside0.mk (Kd.R_drew HO_7.out)
                 have n1_ := Aside0.mk (Kd.R_drew HO_9.out)
                 have n2_ := Aside0.mk (blk_drew BK315.out)
                 have n3_ := Aside0.mk (blk_drew BK316.out)
                 have n4_ := Aside0.mk (blk_drew BK324.out)
                 have n5_ := Aside0.mk (blk_drew BK325.out)
                 have n6_ := Aside0.mk (below_drew1 HB.out)
                 clear HO_7
                 clear HO_9
                 clear BK315
                 clear BK316
                 clear BK324
                 clear BK325
                 clear HB
                 have HO_7 := n0_
                 have HO_9 := n1_
                 have BK315 := n2_
                 have BK316 := n3_
                 have BK324 := n4_
                 have BK325 := n5_
                 have HB := n6_
                 clear n0_ n1_ n2_ n3_ n4_ n5_ n6_
                 have p334 : 0 ≤ (x81_4 : Int) := of_decide_eq_true (by first | (with_reducible assumption) | assumption)
                 have q334 : x81_4 < (t326.length : Int) := of_decide_eq_true (by first | (with_reducible assumption) | assumption)
                 obtain ⟨ad334, e334, hx334_0, hx334_1, hx334_2⟩ := at_T23 (Kd.R_reads' HO_7.out).2.2 x81_4 p334 q334
                 cases e334
                 replace p334 := eq_true p334
                 replace q334 := eq_true q334
                 obtain ⟨Ao101, co101, eo101⟩ := Kd.R_slice HO_9.out
                 (first | subst eo101 | (injection eo101 with f1_ f2_ f3_; have f4_ := f1_.symm; have f5_ := f3_.symm; clear f1_ f2_ f3_; subst f4_; subst f5_))
                 have p335 : 0 ≤ (x81_4 : Int) := of_decide_eq_true (by first | (with_reducible assumption) | assumption)
                 have q335 : x81_4 < (t330.length : Int) := of_decide_eq_true (by first | (with_reducible assumption) | assumption)
                 obtain ⟨ad335, e335, hx335_0, hx335_1, hx335_2⟩ := at_T23 (Kd.R_reads' HO_9.out).2.2 x81_4 p335 q335
                 cases e335
                 replace p335 := eq_true p335
                 replace q335 := eq_true q335
                 have p336 : 0 ≤ (x81_4 : Int) := of_decide_eq_true (by first | (with_reducible assumption) | assumption)
                 have q336 : x81_4 < (t326.length : Int) := of_decide_eq_true (by first | (with_reducible assumption) | assumption)
                 obtain ⟨ad336, e336, hx336_0, hx336_1, hx336_2⟩ := at_T23 (Kd.R_reads' HO_7.out).2.2 x81_4 p336 q336
                 obtain rfl : ad334 = ad336 := (by injection e336)
                 replace p336 := eq_true p336
                 replace q336 := eq_true q336
                 have p337 : 0 ≤ (x81_4 : Int) := of_decide_eq_true (by first | (with_reducible assumption) | assumption)
                 have q337 : x81_4 < (t330.length : Int) := of_decide_eq_true (by first | (with_reducible assumption) | assumption)
                 obtain ⟨ad337, e337, hx337_0, hx337_1, hx337_2⟩ := at_T23 (Kd.R_reads' HO_9.out).2.2 x81_4 p337 q337
                 obtain rfl : ad335 = ad337 := (by injection e337)
                 replace p337 := eq_true p337
                 replace q337 := eq_true q337
                 refine start_ (n := 38) (S := fun w' => w'.cell? (ad334.add ((x81_4).toNat * 3)) = some (.int .i64 ((rd_T23 t326 x81_4).f0)) ∧ w'.cell? ⟨(ad334.add ((x81_4).toNat * 3)).block, (ad334.add ((x81_4).toNat * 3)).off + 1, none⟩ = some (.int .i64 ((rd_T23 t326 x81_4).f1)) ∧ w'.cell? ⟨(ad334.add ((x81_4).toNat * 3)).block, (ad334.add ((x81_4).toNat * 3)).off + 2, none⟩ = some (.int .i64 ((rd_T23 t326 x81_4).f2)) ∧ w'.cell? (ad335.add ((x81_4).toNat * 3)) = some (.int .i64 ((rd_T23 t330 x81_4).f0)) ∧ w'.cell? ⟨(ad335.add ((x81_4).toNat * 3)).block, (ad335.add ((x81_4).toNat * 3)).off + 1, none⟩ = some (.int .i64 ((rd_T23 t330 x81_4).f1)) ∧ w'.cell? ⟨(ad335.add ((x81_4).toNat * 3)).block, (ad335.add ((x81_4).toNat * 3)).off + 2, none⟩ = some (.int .i64 ((rd_T23 t330 x81_4).f2)) ∧ w'.cell? (ad334.add ((x81_4).toNat * 3)) = some (.int .i64 ((rd_T23 t326 x81_4).f0)) ∧ w'.cell? ⟨(ad334.add ((x81_4).toNat * 3)).block, (ad334.add ((x81_4).toNat * 3)).off + 1, none⟩ = some (.int .i64 ((rd_T23 t326 x81_4).f1)) ∧ w'.cell? ⟨(ad334.add ((x81_4).toNat * 3)).block, (ad334.add ((x81_4).toNat * 3)).off + 2, none⟩ = some (.int .i64 ((rd_T23 t326 x81_4).f2)) ∧ w'.cell? (ad335.add ((x81_4).toNat * 3)) = some (.int .i64 ((rd_T23 t330 x81_4).f0)) ∧ w'.cell? ⟨(ad335.add ((x81_4).toNat * 3)).block, (ad335.add ((x81_4).toNat * 3)).off + 1, none⟩ = some (.int .i64 ((rd_T23 t330 x81_4).f1)) ∧ w'.cell? ⟨(ad335.add ((x81_4).toNat * 3)).block, (ad335.add ((x81_4).toNat * 3)).off + 2, none⟩ = some (.int .i64 ((rd_T23 t330 x81_4).f2))) (ds := []) #[false, false, false, false, false, false, false, false, false, false, false, false, false, false, false, false, false, false, false, false, false, false, false, false, false, false, false, false, false, false, false, false, false, false, false, false, false, false] (by kernel_rfl) rfl rfl ⟨hx334_0, hx334_1, hx334_2, hx335_0, hx335_1, hx335_2, hx336_0, hx336_1, hx336_2, hx337_0, hx337_1, hx337_2⟩ (fun hHeld => ?_); refine with_tabW swarflaw33_InterpolateMirrored.tab18 swarflaw33_InterpolateMirrored.bits18 (fun HT_ HW_ => ?_)
                 generalize wr.drew = w100 at HO_7 HO_9 BK315 BK316 BK324 BK325 HB hx334_0 hx334_1 hx334_2 hx335_0 hx335_1 hx335_2 hx336_0 hx336_1 hx336_2 hx337_0 hx337_1 hx337_2 hHeld ⊢
                 refine pure_ (i := 0) (N := some 84) (v := ?_) (a' := ?_) #[true, false, false, false, false, false, false, false, false, false, false, false, false, false, false, false, false, false, false, false, false, false, false, false, false, false, false, false, false, false, false, false, false, false, false, false, false, false] rfl rfl (any_of HT_.out (by kernel_rfl)) (fun _ _ _ h => h) (Or.inl ⟨by rfl, ?_⟩) ?_ ?_
                 rotate_left
                 ·intro w'
                  go_simp
                  with_reducible rfl
                 rotate_left
                 ·simp only [Act.put, List.setIfInBounds_toArray, List.set_cons_zero, List.set_cons_succ, i64_w, i32_w]
                  rfl
                 refine pure_ (i := 1) (N := some 85) (v := ?_) (a' := ?_) #[true, true, false, false, false, false, false, false, false, false, false, false, false, false, false, false, false, false, false, false, false, false, false, false, false, false, false, false, false, false, false, false, false, false, false, false, false, false] rfl rfl (any_of HT_.out (by kernel_rfl)) (fun _ _ _ h => h) (Or.inl ⟨by rfl, ?_⟩) ?_ ?_
                 rotate_left
                 ·intro w'
                  go_simp
                  with_reducible rfl
                 rotate_left
                 ·simp only [Act.put, List.setIfInBounds_toArray, List.set_cons_zero, List.set_cons_succ, i64_w, i32_w]
                  rfl
                 refine pure_ (i := 2) (N := some 86) (v := ?_) (a' := ?_) #[true, true, true, false, false, false, false, false, false, false, false, false, false, false, false, false, false, false, false, false, false, false, false, false, false, false, false, false, false, false, false, false, false, false, false, false, false, false] rfl rfl (any_of HT_.out (by kernel_rfl)) (fun _ _ _ h => h) (Or.inl ⟨by rfl, ?_⟩) ?_ ?_
                 rotate_left
                 ·intro w'
                  go_simp
                  with_reducible rfl
                 rotate_left
                 ·simp only [Act.put, List.setIfInBounds_toArray, List.set_cons_zero, List.set_cons_succ, i64_w, i32_w]
                  rfl
                 refine pure_ (i := 3) (N := some 87) (v := ?_) (a' := ?_) #[true, true, true, true, false, false, false, false, false, false, false, false, false, false, false, false, false, false, false, false, false, false, false, false, false, false, false, false, false, false, false, false, false, false, false, false, false, false] rfl rfl (any_of HT_.out (by kernel_rfl)) (fun _ _ _ h => h) (Or.inl ⟨by rfl, ?_⟩) ?_ ?_
                 rotate_left
                 ·intro w'
                  go_simp
                  with_reducible rfl
                 rotate_left
                 ·simp only [Act.put, List.setIfInBounds_toArray, List.set_cons_zero, List.set_cons_succ, i64_w, i32_w]
                  rfl
                 refine pure_ (i := 5) (N := some 89) (v := ?_) (a' := ?_) #[true, true, true, true, false, true, false, false, false, false, false, false, false, false, false, false, false, false, false, false, false, false, false, false, false, false, false, false, false, false, false, false, false, false, false, false, false, false] rfl rfl (any_of HT_.out (by kernel_rfl)) (fun _ _ _ h => h) (Or.inl ⟨by rfl, ?_⟩) ?_ ?_
                 rotate_left
                 ·intro w'
                  go_simp
                  with_reducible rfl
                 rotate_left
                 ·simp only [Act.put, List.setIfInBounds_toArray, List.set_cons_zero, List.set_cons_succ, i64_w, i32_w]
                  rfl
                 refine pure_ (i := 6) (N := some 90) (v := ?_) (a' := ?_) #[true, true, true, true, false, true, true, false, false, false, false, false, false, false, false, false, false, false, false, false, false, false, false, false, false, false, false, false, false, false, false, false, false, false, false, false, false, false] rfl rfl (any_of HT_.out (by kernel_rfl)) (fun _ _ _ h => h) (Or.inl ⟨by rfl, ?_⟩) ?_ ?_
                 rotate_left
                 ·intro w'
                  go_simp
                  with_reducible rfl
                 rotate_left
                 ·simp only [Act.put, List.setIfInBounds_toArray, List.set_cons_zero, List.set_cons_succ, i64_w, i32_w]
                  rfl
                 refine pure_ (i := 7) (N := some 91) (v := ?_) (a' := ?_) #[true, true, true, true, false, true, true, true, false, false, false, false, false, false, false, false, false, false, false, false, false, false, false, false, false, false, false, false, false, false, false, false, false, false, false, false, false, false] rfl rfl (any_of HT_.out (by kernel_rfl)) (fun _ _ _ h => h) (Or.inl ⟨by rfl, ?_⟩) ?_ ?_
                 rotate_left
                 ·intro w'
                  go_simp
                  with_reducible rfl
                 rotate_left
                 ·simp only [Act.put, List.setIfInBounds_toArray, List.set_cons_zero, List.set_cons_succ, i64_w, i32_w]
                  rfl
                 refine pure_ (i := 8) (N := some 92) (v := ?_) (a' := ?_) #[true, true, true, true, false, true, true, true, true, false, false, false, false, false, false, false, false, false, false, false, false, false, false, false, false, false, false, false, false, false, false, false, false, false, false, false, false, false] rfl rfl (any_of HT_.out (by kernel_rfl)) (fun _ _ _ h => h) (Or.inl ⟨by rfl, ?_⟩) ?_ ?_
                 rotate_left
                 ·intro w'
                  go_simp
                  with_reducible rfl
                 rotate_left
                 ·simp only [Act.put, List.setIfInBounds_toArray, List.set_cons_zero, List.set_cons_succ, i64_w, i32_w]
                  rfl
                 refine take_ (i := 4) (N := some 88) (v := ?_) (a' := ?_) #[true, true, true, true, true, true, true, true, true, false, false, false, false, false, false, false, false, false, false, false, false, false, false, false, false, false, false, false, false, false, false, false, false, false, false, false, false, false] rfl rfl (take_ofW HT_.out HW_.out (by kernel_rfl)) (fun _ _ _ h => h) (Or.inl ⟨by rfl, ?_⟩) hHeld ?_ ?_
                 rotate_left
                 ·rintro w' ⟨s0, s1, s2, s3, s4, s5, s6, s7, s8, s9, s10, s11⟩
                  go_simp
                  with_reducible rfl
                 rotate_left
                 ·simp only [Act.put, List.setIfInBounds_toArray, List.set_cons_zero, List.set_cons_succ, i64_w, i32_w]
                  rfl
                 refine take_ (i := 9) (N := some 93) (v := ?_) (a' := ?_) #[true, true, true, true, true, true, true, true, true, true, false, false, false, false, false, false, false, false, false, false, false, false, false, false, false, false, false, false, false, false, false, false, false, false, false, false, false, false] rfl rfl (take_ofW HT_.out HW_.out (by kernel_rfl)) (fun _ _ _ h => h) (Or.inl ⟨by rfl, ?_⟩) hHeld ?_ ?_
                 rotate_left
                 ·rintro w' ⟨s0, s1, s2, s3, s4, s5, s6, s7, s8, s9, s10, s11⟩
                  go_simp
                  with_reducible rfl
                 rotate_left
                 ·simp only [Act.put, List.setIfInBounds_toArray, List.set_cons_zero, List.set_cons_succ, i64_w, i32_w]
                  rfl
                 refine pure_ (i := 10) (N := some 94) (v := ?_) (a' := ?_) #[true, true, true, true, true, true, true, true, true, true, true, false, false, false, false, false, false, false, false, false, false, false, false, false, false, false, false, false, false, false, false, false, false, false, false, false, false, false] rfl rfl (any_of HT_.out (by kernel_rfl)) (fun _ _ _ h => h) (Or.inl ⟨by rfl, ?_⟩) ?_ ?_
                 rotate_left
                 ·intro w'
                  go_simp
                  with_reducible rfl
                 rotate_left
                 ·simp only [Act.put, List.setIfInBounds_toArray, List.set_cons_zero, List.set_cons_succ, i64_w, i32_w]
                  rfl
                 refine pure_ (i := 11) (N := some 95) (v := ?_) (a' := ?_) #[true, true, true, true, true, true, true, true, true, true, true, true, false, false, false, false, false, false, false, false, false, false, false, false, false, false, false, false, false, false, false, false, false, false, false, false, false, false] rfl rfl (any_of HT_.out (by kernel_rfl)) (fun _ _ _ h => h) (Or.inl ⟨by rfl, ?_⟩) ?_ ?_
                 rotate_left
                 ·intro w'
                  go_simp
                  with_reducible rfl
                 rotate_left
                 ·simp only [Act.put, List.setIfInBounds_toArray, List.set_cons_zero, List.set_cons_succ, i64_w, i32_w]
                  rfl
                 refine pure_ (i := 12) (N := some 96) (v := ?_) (a' := ?_) #[true, true, true, true, true, true, true, true, true, true, true, true, true, false, false, false, false, false, false, false, false, false, false, false, false, false, false, false, false, false, false, false, false, false, false, false, false, false] rfl rfl (any_of HT_.out (by kernel_rfl)) (fun _ _ _ h => h) (Or.inl ⟨by rfl, ?_⟩) ?_ ?_
                 rotate_left
                 ·intro w'
                  go_simp
                  with_reducible rfl
                 rotate_left
                 ·simp only [Act.put, List.setIfInBounds_toArray, List.set_cons_zero, List.set_cons_succ, i64_w, i32_w]
                  rfl
                 refine pure_ (i := 13) (N := some 97) (v := ?_) (a' := ?_) #[true, true, true, true, true, true, true, true, true, true, true, true, true, true, false, false, false, false, false, false, false, false, false, false, false, false, false, false, false, false, false, false, false, false, false, false, false, false] rfl rfl (any_of HT_.out (by kernel_rfl)) (fun _ _ _ h => h) (Or.inl ⟨by rfl, ?_⟩) ?_ ?_
                 rotate_left
                 ·intro w'
                  go_simp
                  with_reducible rfl
                 rotate_left
                 ·simp only [Act.put, List.setIfInBounds_toArray, List.set_cons_zero, List.set_cons_succ, i64_w, i32_w]
                  rfl
                 refine pure_ (i := 14) (N := some 98) (v := ?_) (a' := ?_) #[true, true, true, true, true, true, true, true, true, true, true, true, true, true, true, false, false, false, false, false, false, false, false, false, false, false, false, false, false, false, false, false, false, false, false, false, false, false] rfl rfl (any_of HT_.out (by kernel_rfl)) (fun _ _ _ h => h) (Or.inl ⟨by rfl, ?_⟩) ?_ ?_
                 rotate_left
                 ·intro w'
                  go_simp
                  with_reducible rfl
                 rotate_left
                 ·simp only [Act.put, List.setIfInBounds_toArray, List.set_cons_zero, List.set_cons_succ, i64_w, i32_w]
                  rfl
                 refine pure_ (i := 15) (N := some 99) (v := ?_) (a' := ?_) #[true, true, true, true, true, true, true, true, true, true, true, true, true, true, true, true, false, false, false, false, false, false, false, false, false, false, false, false, false, false, false, false, false, false, false, false, false, false] rfl rfl (any_of HT_.out (by kernel_rfl)) (fun _ _ _ h => h) (Or.inl ⟨by rfl, ?_⟩) ?_ ?_
                 rotate_left
                 ·intro w'
                  go_simp
                  with_reducible rfl
                 rotate_left
                 ·simp only [Act.put, List.setIfInBounds_toArray, List.set_cons_zero, List.set_cons_succ, i64_w, i32_w]
                  rfl
                 refine pure_ (i := 17) (N := some 101) (v := ?_) (a' := ?_) #[true, true, true, true, true, true, true, true, true, true, true, true, true, true, true, true, false, true, false, false, false, false, false, false, false, false, false, false, false, false, false, false, false, false, false, false, false, false] rfl rfl (any_of HT_.out (by kernel_rfl)) (fun _ _ _ h => h) (Or.inl ⟨by rfl, ?_⟩) ?_ ?_
                 rotate_left
                 ·intro w'
                  go_simp
                  with_reducible rfl
                 rotate_left
                 ·simp only [Act.put, List.setIfInBounds_toArray, List.set_cons_zero, List.set_cons_succ, i64_w, i32_w]
                  rfl
                 refine pure_ (i := 18) (N := some 102) (v := ?_) (a' := ?_) #[true, true, true, true, true, true, true, true, true, true, true, true, true, true, true, true, false, true, true, false, false, false, false, false, false, false, false, false, false, false, false, false, false, false, false, false, false, false] rfl rfl (any_of HT_.out (by kernel_rfl)) (fun _ _ _ h => h) (Or.inl ⟨by rfl, ?_⟩) ?_ ?_
                 rotate_left
                 ·intro w'
                  go_simp
                  with_reducible rfl
                 rotate_left
                 ·simp only [Act.put, List.setIfInBounds_toArray, List.set_cons_zero, List.set_cons_succ, i64_w, i32_w]
                  rfl
                 refine pure_ (i := 19) (N := some 103) (v := ?_) (a' := ?_) #[true, true, true, true, true, true, true, true, true, true, true, true, true, true, true, true, false, true, true, true, false, false, false, false, false, false, false, false, false, false, false, false, false, false, false, false, false, false] rfl rfl (any_of HT_.out (by kernel_rfl)) (fun _ _ _ h => h) (Or.inl ⟨by rfl, ?_⟩) ?_ ?_
                 rotate_left
                 ·intro w'
                  go_simp
                  with_reducible rfl
                 rotate_left
                 ·simp only [Act.put, List.setIfInBounds_toArray, List.set_cons_zero, List.set_cons_succ, i64_w, i32_w]
                  rfl
                 refine pure_ (i := 20) (N := some 104) (v := ?_) (a' := ?_) #[true, true, true, true, true, true, true, true, true, true, true, true, true, true, true, true, false, true, true, true, true, false, false, false, false, false, false, false, false, false, false, false, false, false, false, false, false, false] rfl rfl (any_of HT_.out (by kernel_rfl)) (fun _ _ _ h => h) (Or.inl ⟨by rfl, ?_⟩) ?_ ?_
                 rotate_left
                 ·intro w'
                  go_simp
                  with_reducible rfl
                 rotate_left
                 ·simp only [Act.put, List.setIfInBounds_toArray, List.set_cons_zero, List.set_cons_succ, i64_w, i32_w]
                  rfl
                 refine take_ (i := 16) (N := some 100) (v := ?_) (a' := ?_) #[true, true, true, true, true, true, true, true, true, true, true, true, true, true, true, true, true, true, true, true, true, false, false, false, false, false, false, false, false, false, false, false, false, false, false, false, false, false] rfl rfl (take_ofW HT_.out HW_.out (by kernel_rfl)) (fun _ _ _ h => h) (Or.inl ⟨by rfl, ?_⟩) hHeld ?_ ?_
                 rotate_left
                 ·rintro w' ⟨s0, s1, s2, s3, s4, s5, s6, s7, s8, s9, s10, s11⟩
                  go_simp
                  with_reducible rfl
                 rotate_left
                 ·simp only [Act.put, List.setIfInBounds_toArray, List.set_cons_zero, List.set_cons_succ, i64_w, i32_w]
                  rfl
                 refine take_ (i := 21) (N := some 105) (v := ?_) (a' := ?_) #[true, true, true, true, true, true, true, true, true, true, true, true, true, true, true, true, true, true, true, true, true, true, false, false, false, false, false, false, false, false, false, false, false, false, false, false, false, false] rfl rfl (take_ofW HT_.out HW_.out (by kernel_rfl)) (fun _ _ _ h => h) (Or.inl ⟨by rfl, ?_⟩) hHeld ?_ ?_
                 rotate_left
                 ·rintro w' ⟨s0, s1, s2, s3, s4, s5, s6, s7, s8, s9, s10, s11⟩
                  go_simp
                  with_reducible rfl
                 rotate_left
                 ·simp only [Act.put, List.setIfInBounds_toArray, List.set_cons_zero, List.set_cons_succ, i64_w, i32_w]
                  rfl
                 refine pure_ (i := 22) (N := some 106) (v := ?_) (a' := ?_) #[true, true, true, true, true, true, true, true, true, true, true, true, true, true, true, true, true, true, true, true, true, true, true, false, false, false, false, false, false, false, false, false, false, false, false, false, false, false] rfl rfl (any_of HT_.out (by kernel_rfl)) (fun _ _ _ h => h) (Or.inl ⟨by rfl, ?_⟩) ?_ ?_
                 rotate_left
                 ·intro w'
                  go_simp
                  with_reducible rfl
                 rotate_left
                 ·simp only [Act.put, List.setIfInBounds_toArray, List.set_cons_zero, List.set_cons_succ, i64_w, i32_w]
                  rfl
                 refine pure_ (i := 23) (N := some 107) (v := ?_) (a' := ?_) #[true, true, true, true, true, true, true, true, true, true, true, true, true, true, true, true, true, true, true, true, true, true, true, true, false, false, false, false, false, false, false, false, false, false, false, false, false, false] rfl rfl (any_of HT_.out (by kernel_rfl)) (fun _ _ _ h => h) (Or.inl ⟨by rfl, ?_⟩) ?_ ?_
                 rotate_left
                 ·intro w'
                  go_simp
                  with_reducible rfl
                 rotate_left
                 ·simp only [Act.put, List.setIfInBounds_toArray, List.set_cons_zero, List.set_cons_succ, i64_w, i32_w]
                  rfl
                 refine pure_ (i := 24) (N := some 108) (v := ?_) (a' := ?_) #[true, true, true, true, true, true, true, true, true, true, true, true, true, true, true, true, true, true, true, true, true, true, true, true, true, false, false, false, false, false, false, false, false, false, false, false, false, false] rfl rfl (any_of HT_.out (by kernel_rfl)) (fun _ _ _ h => h) (Or.inl ⟨by rfl, ?_⟩) ?_ ?_
                 rotate_left
                 ·intro w'
                  go_simp
                  with_reducible rfl
                 rotate_left
                 ·simp only [Act.put, List.setIfInBounds_toArray, List.set_cons_zero, List.set_cons_succ, i64_w, i32_w]
                  rfl
                 refine pure_ (i := 25) (N := some 109) (v := ?_) (a' := ?_) #[true, true, true, true, true, true, true, true, true, true, true, true, true, true, true, true, true, true, true, true, true, true, true, true, true, true, false, false, false, false, false, false, false, false, false, false, false, false] rfl rfl (any_of HT_.out (by kernel_rfl)) (fun _ _ _ h => h) (Or.inl ⟨by rfl, ?_⟩) ?_ ?_
                 rotate_left
                 ·intro w'
                  go_simp
                  with_reducible rfl
                 rotate_left
                 ·simp only [Act.put, List.setIfInBounds_toArray, List.set_cons_zero, List.set_cons_succ, i64_w, i32_w]
                  rfl
                 refine pure_ (i := 26) (N := some 110) (v := undef) (a' := ?_) #[true, true, true, true, true, true, true, true, true, true, true, true, true, true, true, true, true, true, true, true, true, true, true, true, true, true, true, false, false, false, false, false, false, false, false, false, false, false] rfl rfl (any_of HT_.out (by kernel_rfl)) (fun _ _ _ h => h) (Or.inr ⟨by rfl, rfl⟩) ?_ ?_
                 rotate_left
                 ·simp only [Act.put, List.setIfInBounds_toArray, List.set_cons_zero, List.set_cons_succ, i64_w, i32_w]
                  rfl
                 refine pure_ (i := 27) (N := some 111) (v := undef) (a' := ?_) #[true, true, true, true, true, true, true, true, true, true, true, true, true, true, true, true, true, true, true, true, true, true, true, true, true, true, true, true, false, false, false, false, false, false, false, false, false, false] rfl rfl (any_of HT_.out (by kernel_rfl)) (fun _ _ _ h => h) (Or.inr ⟨by rfl, rfl⟩) ?_ ?_
                 rotate_left
                 ·simp only [Act.put, List.setIfInBounds_toArray, List.set_cons_zero, List.set_cons_succ, i64_w, i32_w]
                  rfl
                 refine pure_ (i := 28) (N := some 112) (v := undef) (a' := ?_) #[true, true, true, true, true, true, true, true, true, true, true, true, true, true, true, true, true, true, true, true, true, true, true, true, true, true, true, true, true, false, false, false, false, false, false, false, false, false] rfl rfl (any_of HT_.out (by kernel_rfl)) (fun _ _ _ h => h) (Or.inr ⟨by rfl, rfl⟩) ?_ ?_
                 rotate_left
                 ·simp only [Act.put, List.setIfInBounds_toArray, List.set_cons_zero, List.set_cons_succ, i64_w, i32_w]
                  rfl
                 refine pure_ (i := 29) (N := some 113) (v := undef) (a' := ?_) #[true, true, true, true, true, true, true, true, true, true, true, true, true, true, true, true, true, true, true, true, true, true, true, true, true, true, true, true, true, true, false, false, false, false, false, false, false, false] rfl rfl (any_of HT_.out (by kernel_rfl)) (fun _ _ _ h => h) (Or.inr ⟨by rfl, rfl⟩) ?_ ?_
                 rotate_left
                 ·simp only [Act.put, List.setIfInBounds_toArray, List.set_cons_zero, List.set_cons_succ, i64_w, i32_w]
                  rfl
                 refine pure_ (i := 30) (N := some 114) (v := undef) (a' := ?_) #[true, true, true, true, true, true, true, true, true, true, true, true, true, true, true, true, true, true, true, true, true, true, true, true, true, true, true, true, true, true, true, false, false, false, false, false, false, false] rfl rfl (any_of HT_.out (by kernel_rfl)) (fun _ _ _ h => h) (Or.inr ⟨by rfl, rfl⟩) ?_ ?_
                 rotate_left
                 ·simp only [Act.put, List.setIfInBounds_toArray, List.set_cons_zero, List.set_cons_succ, i64_w, i32_w]
                  rfl
                 refine pure_ (i := 31) (N := some 115) (v := undef) (a' := ?_) #[true, true, true, true, true, true, true, true, true, true, true, true, true, true, true, true, true, true, true, true, true, true, true, true, true, true, true, true, true, true, true, true, false, false, false, false, false, false] rfl rfl (any_of HT_.out (by kernel_rfl)) (fun _ _ _ h => h) (Or.inr ⟨by rfl, rfl⟩) ?_ ?_
                 rotate_left
                 ·simp only [Act.put, List.setIfInBounds_toArray, List.set_cons_zero, List.set_cons_succ, i64_w, i32_w]
                  rfl
                 refine pure_ (i := 32) (N := some 116) (v := undef) (a' := ?_) #[true, true, true, true, true, true, true, true, true, true, true, true, true, true, true, true, true, true, true, true, true, true, true, true, true, true, true, true, true, true, true, true, true, false, false, false, false, false] rfl rfl (any_of HT_.out (by kernel_rfl)) (fun _ _ _ h => h) (Or.inr ⟨by rfl, rfl⟩) ?_ ?_
                 rotate_left
                 ·simp only [Act.put, List.setIfInBounds_toArray, List.set_cons_zero, List.set_cons_succ, i64_w, i32_w]
                  rfl
                 refine pure_ (i := 33) (N := some 117) (v := undef) (a' := ?_) #[true, true, true, true, true, true, true, true, true, true, true, true, true, true, true, true, true, true, true, true, true, true, true, true, true, true, true, true, true, true, true, true, true, true, false, false, false, false] rfl rfl (any_of HT_.out (by kernel_rfl)) (fun _ _ _ h => h) (Or.inr ⟨by rfl, rfl⟩) ?_ ?_
                 rotate_left
                 ·simp only [Act.put, List.setIfInBounds_toArray, List.set_cons_zero, List.set_cons_succ, i64_w, i32_w]
                  rfl
                 refine pure_ (i := 34) (N := some 118) (v := undef) (a' := ?_) #[true, true, true, true, true, true, true, true, true, true, true, true, true, true, true, true, true, true, true, true, true, true, true, true, true, true, true, true, true, true, true, true, true, true, true, false, false, false] rfl rfl (any_of HT_.out (by kernel_rfl)) (fun _ _ _ h => h) (Or.inr ⟨by rfl, rfl⟩) ?_ ?_
                 rotate_left
                 ·simp only [Act.put, List.setIfInBounds_toArray, List.set_cons_zero, List.set_cons_succ, i64_w, i32_w]
                  rfl
                 refine pure_ (i := 35) (N := some 119) (v := undef) (a' := ?_) #[true, true, true, true, true, true, true, true, true, true, true, true, true, true, true, true, true, true, true, true, true, true, true, true, true, true, true, true, true, true, true, true, true, true, true, true, false, false] rfl rfl (any_of HT_.out (by kernel_rfl)) (fun _ _ _ h => h) (Or.inr ⟨by rfl, rfl⟩) ?_ ?_
                 rotate_left
                 ·simp only [Act.put, List.setIfInBounds_toArray, List.set_cons_zero, List.set_cons_succ, i64_w, i32_w]
                  rfl
                 refine pure_ (i := 36) (N := some 120) (v := undef) (a' := ?_) #[true, true, true, true, true, true, true, true, true, true, true, true, true, true, true, true, true, true, true, true, true, true, true, true, true, true, true, true, true, true, true, true, true, true, true, true, true, false] rfl rfl (any_of HT_.out (by kernel_rfl)) (fun _ _ _ h => h) (Or.inr ⟨by rfl, rfl⟩) ?_ ?_
                 rotate_left
                 ·simp only [Act.put, List.setIfInBounds_toArray, List.set_cons_zero, List.set_cons_succ, i64_w, i32_w]
                  rfl
                 refine pure_ (i := 37) (N := some 121) (v := ?_) (a' := ?_) #[true, true, true, true, true, true, true, true, true, true, true, true, true, true, true, true, true, true, true, true, true, true, true, true, true, true, true, true, true, true, true, true, true, true, true, true, true, true] rfl rfl (any_of HT_.out (by kernel_rfl)) (fun _ _ _ h => h) (Or.inl ⟨by rfl, ?_⟩) ?_ ?_
                 rotate_left
                 ·intro w'
                  go_simp
                  with_reducible rfl
                 rotate_left
                 ·simp only [Act.put, List.setIfInBounds_toArray, List.set_cons_zero, List.set_cons_succ, i64_w, i32_w]
                  rfl
                 refine done_ (done_of HT_.out (by kernel_rfl)) ?_
                 try go_wp2
                 go_ret
                 exact ⟨by first | rfl | (simp [errW_none, errW_some] <;> rfl) | (simp [*, errW_none, errW_some] <;> rfl), by repeat (first | (with_reducible first | exact HB.out | apply below_alloc | apply pw_below_drewN | apply below_drew1 | refine below_set ?_ GE315.out | refine below_set ?_ GE316.out | refine below_set ?_ GE324.out | refine below_set ?_ GE325.out) | exact HB.out)⟩
               ·rw [if_neg c93] at H
                have c93b0 : (((rd_T23 t326 x81_4).f0) == ((rd_T23 t330 x81_4).f0)) = false := beq_eq_false_iff_ne.mpr c93
                have c93b1 : (((rd_T23 t326 x81_4).f0) != ((rd_T23 t330 x81_4).f0)) = true := bne_iff_ne.mpr c93
                obtain rfl := Option.some.inj H
                try go_wp2
                have n0_ := Aside0.mk (Kd.R_drew HO_7.out)
                have n1_ := Aside0.mk (Kd.R_drew HO_9.out)
                have n2_ := Aside0.mk (blk_drew BK315.out)
                have n3_ := Aside0.mk (blk_drew BK316.out)
                have n4_ := Aside0.mk (blk_drew BK324.out)
                have n5_ := Aside0.mk (blk_drew BK325.out)
                have n6_ := Aside0.mk (below_drew1 HB.out)
                clear HO_7
                clear HO_9
                clear BK315
                clear BK316
                clear BK324
                clear BK325
                clear HB
                have HO_7 := n0_
                have HO_9 := n1_
                have BK315 := n2_
                have BK316 := n3_
                have BK324 := n4_
                have BK325 := n5_
                have HB := n6_
                clear n0_ n1_ n2_ n3_ n4_ n5_ n6_
                have p334 : 0 ≤ (x81_4 : Int) := of_decide_eq_true (by first | (with_reducible assumption) | assumption)
                have q334 : x81_4 < (t326.length : Int) := of_decide_eq_true (by first | (with_reducible assumption) | assumption)
                obtain ⟨ad334, e334, hx334_0, hx334_1, hx334_2⟩ := at_T23 (Kd.R_reads' HO_7.out).2.2 x81_4 p334 q334
                cases e334
                replace p334 := eq_true p334
                replace q334 := eq_true q334
                obtain ⟨Ao103, co103, eo103⟩ := Kd.R_slice HO_9.out
                (first | subst eo103 | (injection eo103 with f1_ f2_ f3_; have f4_ := f1_.symm; have f5_ := f3_.symm; clear f1_ f2_ f3_; subst f4_; subst f5_))
                have p335 : 0 ≤ (x81_4 : Int) := of_decide_eq_true (by first | (with_reducible assumption) | assumption)
                have q335 : x81_4 < (t330.length : Int) := of_decide_eq_true (by first | (with_reducible assumption) | assumption)
                obtain ⟨ad335, e335, hx335_0, hx335_1, hx335_2⟩ := at_T23 (Kd.R_reads' HO_9.out).2.2 x81_4 p335 q335
                cases e335
                replace p335 := eq_true p335
                replace q335 := eq_true q335
                refine start_ (n := 38) (S := fun w' => w'.cell? (ad334.add ((x81_4).toNat * 3)) = some (.int .i64 ((rd_T23 t326 x81_4).f0)) ∧ w'.cell? ⟨(ad334.add ((x81_4).toNat * 3)).block, (ad334.add ((x81_4).toNat * 3)).off + 1, none⟩ = some (.int .i64 ((rd_T23 t326 x81_4).f1)) ∧ w'.cell? ⟨(ad334.add ((x81_4).toNat * 3)).block, (ad334.add ((x81_4).toNat * 3)).off + 2, none⟩ = some (.int .i64 ((rd_T23 t326 x81_4).f2)) ∧ w'.cell? (ad335.add ((x81_4).toNat * 3)) = some (.int .i64 ((rd_T23 t330 x81_4).f0)) ∧ w'.cell? ⟨(ad335.add ((x81_4).toNat * 3)).block, (ad335.add ((x81_4).toNat * 3)).off + 1, none⟩ = some (.int .i64 ((rd_T23 t330 x81_4).f1)) ∧ w'.cell? ⟨(ad335.add ((x81_4).toNat * 3)).block, (ad335.add ((x81_4).toNat * 3)).off + 2, none⟩ = some (.int .i64 ((rd_T23 t330 x81_4).f2))) (ds := []) #[false, false, false, false, false, false, false, false, false, false, false, false, false, false, false, false, false, false, false, false, false, false, false, false, false, false, false, false, false, false, false, false, false, false, false, false, false, false] (by kernel_rfl) rfl rfl ⟨hx334_0, hx334_1, hx334_2, hx335_0, hx335_1, hx335_2⟩ (fun hHeld => ?_); refine with_tabW swarflaw33_InterpolateMirrored.tab18 swarflaw33_InterpolateMirrored.bits18 (fun HT_ HW_ => ?_)
                generalize wr.drew = w102 at HO_7 HO_9 BK315 BK316 BK324 BK325 HB hx334_0 hx334_1 hx334_2 hx335_0 hx335_1 hx335_2 hHeld ⊢
                refine pure_ (i := 0) (N := some 84) (v := ?_) (a' := ?_) #[true, false, false, false, false, false, false, false, false, false, false, false, false, false, false, false, false, false, false, false, false, false, false, false, false, false, false, false, false, false, false, false, false, false, false, false, false, false] rfl rfl (any_of HT_.out (by kernel_rfl)) (fun _ _ _ h => h) (Or.inl ⟨by rfl, ?_⟩) ?_ ?_
                rotate_left
                ·intro w'
                 go_simp
                 with_reducible rfl
                rotate_left
                ·simp only [Act.put, List.setIfInBounds_toArray, List.set_cons_zero, List.set_cons_succ, i64_w, i32_w]
                 rfl
                refine pure_ (i := 1) (N := some 85) (v := ?_) (a' := ?_) #[true, true, false, false, false, false, false, false, false, false, false, false, false, false, false, false, false, false, false, false, false, false, false, false, false, false, false, false, false, false, false, false, false, false, false, false, false, false] rfl rfl (any_of HT_.out (by kernel_rfl)) (fun _ _ _ h => h) (Or.inl ⟨by rfl, ?_⟩) ?_ ?_
                rotate_left
                ·intro w'
                 go_simp
                 with_reducible rfl
                rotate_left
                ·simp only [Act.put, List.setIfInBounds_toArray, List.set_cons_zero, List.set_cons_succ, i64_w, i32_w]
                 rfl
                refine pure_ (i := 2) (N := some 86) (v := ?_) (a' := ?_) #[true, true, true, false, false, false, false, false, false, false, false, false, false, false, false, false, false, false, false, false, false, false, false, false, false, false, false, false, false, false, false, false, false, false, false, false, false, false] rfl rfl (any_of HT_.out (by kernel_rfl)) (fun _ _ _ h => h) (Or.inl ⟨by rfl, ?_⟩) ?_ ?_
                rotate_left
                ·intro w'
                 go_simp
                 with_reducible rfl
                rotate_left
                ·simp only [Act.put, List.setIfInBounds_toArray, List.set_cons_zero, List.set_cons_succ, i64_w, i32_w]
                 rfl
                refine pure_ (i := 3) (N := some 87) (v := ?_) (a' := ?_) #[true, true, true, true, false, false, false, false, false, false, false, false, false, false, false, false, false, false, false, false, false, false, false, false, false, false, false, false, false, false, false, false, false, false, false, false, false, false] rfl rfl (any_of HT_.out (by kernel_rfl)) (fun _ _ _ h => h) (Or.inl ⟨by rfl, ?_⟩) ?_ ?_
                rotate_left
                ·intro w'
                 go_simp
                 with_reducible rfl
                rotate_left
                ·simp only [Act.put, List.setIfInBounds_toArray, List.set_cons_zero, List.set_cons_succ, i64_w, i32_w]
                 rfl
                refine pure_ (i := 5) (N := some 89) (v := ?_) (a' := ?_) #[true, true, true, true, false, true, false, false, false, false, false, false, false, false, false, false, false, false, false, false, false, false, false, false, false, false, false, false, false, false, false, false, false, false, false, false, false, false] rfl rfl (any_of HT_.out (by kernel_rfl)) (fun _ _ _ h => h) (Or.inl ⟨by rfl, ?_⟩) ?_ ?_
                rotate_left
                ·intro w'
                 go_simp
                 with_reducible rfl
                rotate_left
                ·simp only [Act.put, List.setIfInBounds_toArray, List.set_cons_zero, List.set_cons_succ, i64_w, i32_w]
                 rfl
                refine pure_ (i := 6) (N := some 90) (v := ?_) (a' := ?_) #[true, true, true, true, false, true, true, false, false, false, false, false, false, false, false, false, false, false, false, false, false, false, false, false, false, false, false, false, false, false, false, false, false, false, false, false, false, false] rfl rfl (any_of HT_.out (by kernel_rfl)) (fun _ _ _ h => h) (Or.inl ⟨by rfl, ?_⟩) ?_ ?_
                rotate_left
                ·intro w'
                 go_simp
                 with_reducible rfl
                rotate_left
                ·simp only [Act.put, List.setIfInBounds_toArray, List.set_cons_zero, List.set_cons_succ, i64_w, i32_w]
                 rfl
                refine pure_ (i := 7) (N := some 91) (v := ?_) (a' := ?_) #[true, true, true, true, false, true, true, true, false, false, false, false, false, false, false, false, false, false, false, false, false, false, false, false, false, false, false, false, false, false, false, false, false, false, false, false, false, false] rfl rfl (any_of HT_.out (by kernel_rfl)) (fun _ _ _ h => h) (Or.inl ⟨by rfl, ?_⟩) ?_ ?_
                rotate_left
                ·intro w'
                 go_simp
                 with_reducible rfl
                rotate_left
                ·simp only [Act.put, List.setIfInBounds_toArray, List.set_cons_zero, List.set_cons_succ, i64_w, i32_w]
                 rfl
                refine pure_ (i := 8) (N := some 92) (v := ?_) (a' := ?_) #[true, true, true, true, false, true, true, true, true, false, false, false, false, false, false, false, false, false, false, false, false, false, false, false, false, false, false, false, false, false, false, false, false, false, false, false, false, false] rfl rfl (any_of HT_.out (by kernel_rfl)) (fun _ _ _ h => h) (Or.inl ⟨by rfl, ?_⟩) ?_ ?_
                rotate_left
                ·intro w'
                 go_simp
                 with_reducible rfl
                rotate_left
                ·simp only [Act.put, List.setIfInBounds_toArray, List.set_cons_zero, List.set_cons_succ, i64_w, i32_w]
                 rfl
                refine take_ (i := 4) (N := some 88) (v := ?_) (a' := ?_) #[true, true, true, true, true, true, true, true, true, false, false, false, false, false, false, false, false, false, false, false, false, false, false, false, false, false, false, false, false, false, false, false, false, false, false, false, false, false] rfl rfl (take_ofW HT_.out HW_.out (by kernel_rfl)) (fun _ _ _ h => h) (Or.inl ⟨by rfl, ?_⟩) hHeld ?_ ?_
                rotate_left
                ·rintro w' ⟨s0, s1, s2, s3, s4, s5⟩
                 go_simp
                 with_reducible rfl
                rotate_left
                ·simp only [Act.put, List.setIfInBounds_toArray, List.set_cons_zero, List.set_cons_succ, i64_w, i32_w]
                 rfl
                refine take_ (i := 9) (N := some 93) (v := ?_) (a' := ?_) #[true, true, true, true, true, true, true, true, true, true, false, false, false, false, false, false, false, false, false, false, false, false, false, false, false, false, false, false, false, false, false, false, false, false, false, false, false, false] rfl rfl (take_ofW HT_.out HW_.out (by kernel_rfl)) (fun _ _ _ h => h) (Or.inl ⟨by rfl, ?_⟩) hHeld ?_ ?_
                rotate_left
                ·rintro w' ⟨s0, s1, s2, s3, s4, s5⟩
                 go_simp
                 with_reducible rfl
                rotate_left
                ·simp only [Act.put, List.setIfInBounds_toArray, List.set_cons_zero, List.set_cons_succ, i64_w, i32_w]
                 rfl
                refine pure_ (i := 10) (N := some 94) (v := ?_) (a' := ?_) #[true, true, true, true, true, true, true, true, true, true, true, false, false, false, false, false, false, false, false, false, false, false, false, false, false, false, false, false, false, false, false, false, false, false, false, false, false, false] rfl rfl (any_of HT_.out (by kernel_rfl)) (fun _ _ _ h => h) (Or.inl ⟨by rfl, ?_⟩) ?_ ?_
                rotate_left
                ·intro w'
                 go_simp
                 with_reducible rfl
                rotate_left
                ·simp only [Act.put, List.setIfInBounds_toArray, List.set_cons_zero, List.set_cons_succ, i64_w, i32_w]
                 rfl
                refine pure_ (i := 11) (N := some 95) (v := ?_) (a' := ?_) #[true, true, true, true, true, true, true, true, true, true, true, true, false, false, false, false, false, false, false, false, false, false, false, false, false, false, false, false, false, false, false, false, false, false, false, false, false, false] rfl rfl (any_of HT_.out (by kernel_rfl)) (fun _ _ _ h => h) (Or.inl ⟨by rfl, ?_⟩) ?_ ?_
                rotate_left
                ·intro w'
                 go_simp
                 with_reducible rfl
                rotate_left
                ·simp only [Act.put, List.setIfInBounds_toArray, List.set_cons_zero, List.set_cons_succ, i64_w, i32_w]
                 rfl
                refine pure_ (i := 12) (N := some 96) (v := undef) (a' := ?_) #[true, true, true, true, true, true, true, true, true, true, true, true, true, false, false, false, false, false, false, false, false, false, false, false, false, false, false, false, false, false, false, false, false, false, false, false, false, false] rfl rfl (any_of HT_.out (by kernel_rfl)) (fun _ _ _ h => h) (Or.inr ⟨by rfl, rfl⟩) ?_ ?_
                rotate_left
                ·simp only [Act.put, List.setIfInBounds_toArray, List.set_cons_zero, List.set_cons_succ, i64_w, i32_w]
                 rfl
                refine pure_ (i := 13) (N := some 97) (v := undef) (a' := ?_) #[true, true, true, true, true, true, true, true, true, true, true, true, true, true, false, false, false, false, false, false, false, false, false, false, false, false, false, false, false, false, false, false, false, false, false, false, false, false] rfl rfl (any_of HT_.out (by kernel_rfl)) (fun _ _ _ h => h) (Or.inr ⟨by rfl, rfl⟩) ?_ ?_
                rotate_left
                ·simp only [Act.put, List.setIfInBounds_toArray, List.set_cons_zero, List.set_cons_succ, i64_w, i32_w]
                 rfl
                refine pure_ (i := 14) (N := some 98) (v := undef) (a' := ?_) #[true, true, true, true, true, true, true, true, true, true, true, true, true, true, true, false, false, false, false, false, false, false, false, false, false, false, false, false, false, false, false, false, false, false, false, false, false, false] rfl rfl (any_of HT_.out (by kernel_rfl)) (fun _ _ _ h => h) (Or.inr ⟨by rfl, rfl⟩) ?_ ?_
                rotate_left
                ·simp only [Act.put, List.setIfInBounds_toArray, List.set_cons_zero, List.set_cons_succ, i64_w, i32_w]
                 rfl
                refine pure_ (i := 15) (N := some 99) (v := undef) (a' := ?_) #[true, true, true, true, true, true, true, true, true, true, true, true, true, true, true, true, false, false, false, false, false, false, false, false, false, false, false, false, false, false, false, false, false, false, false, false, false, false] rfl rfl (any_of HT_.out (by kernel_rfl)) (fun _ _ _ h => h) (Or.inr ⟨by rfl, rfl⟩) ?_ ?_
                rotate_left
                ·simp only [Act.put, List.setIfInBounds_toArray, List.set_cons_zero, List.set_cons_succ, i64_w, i32_w]
                 rfl
                refine pure_ (i := 16) (N := some 100) (v := undef) (a' := ?_) #[true, true, true, true, true, true, true, true, true, true, true, true, true, true, true, true, true, false, false, false, false, false, false, false, false, false, false, false, false, false, false, false, false, false, false, false, false, false] rfl rfl (any_of HT_.out (by kernel_rfl)) (fun _ _ _ h => h) (Or.inr ⟨by rfl, rfl⟩) ?_ ?_
                rotate_left
                ·simp only [Act.put, List.setIfInBounds_toArray, List.set_cons_zero, List.set_cons_succ, i64_w, i32_w]
                 rfl
                refine pure_ (i := 17) (N := some 101) (v := undef) (a' := ?_) #[true, true, true, true, true, true, true, true, true, true, true, true, true, true, true, true, true, true, false, false, false, false, false, false, false, false, false, false, false, false, false, false, false, false, false, false, false, false] rfl rfl (any_of HT_.out (by kernel_rfl)) (fun _ _ _ h => h) (Or.inr ⟨by rfl, rfl⟩) ?_ ?_
                rotate_left
                ·simp only [Act.put, List.setIfInBounds_toArray, List.set_cons_zero, List.set_cons_succ, i64_w, i32_w]
                 rfl
                refine pure_ (i := 18) (N := some 102) (v := undef) (a' := ?_) #[true, true, true, true, true, true, true, true, true, true, true, true, true, true, true, true, true, true, true, false, false, false, false, false, false, false, false, false, false, false, false, false, false, false, false, false, false, false] rfl rfl (any_of HT_.out (by kernel_rfl)) (fun _ _ _ h => h) (Or.inr ⟨by rfl, rfl⟩) ?_ ?_
                rotate_left
                ·simp only [Act.put, List.setIfInBounds_toArray, List.set_cons_zero, List.set_cons_succ, i64_w, i32_w]
                 rfl
                refine pure_ (i := 19) (N := some 103) (v := undef) (a' := ?_) #[true, true, true, true, true, true, true, true, true, true, true, true, true, true, true, true, true, true, true, true, false, false, false, false, false, false, false, false, false, false, false, false, false, false, false, false, false, false] rfl rfl (any_of HT_.out (by kernel_rfl)) (fun _ _ _ h => h) (Or.inr ⟨by rfl, rfl⟩) ?_ ?_
                rotate_left
                ·simp only [Act.put, List.setIfInBounds_toArray, List.set_cons_zero, List.set_cons_succ, i64_w, i32_w]
                 rfl
                refine pure_ (i := 20) (N := some 104) (v := undef) (a' := ?_) #[true, true, true, true, true, true, true, true, true, true, true, true, true, true, true, true, true, true, true, true, true, false, false, false, false, false, false, false, false, false, false, false, false, false, false, false, false, false] rfl rfl (any_of HT_.out (by kernel_rfl)) (fun _ _ _ h => h) (Or.inr ⟨by rfl, rfl⟩) ?_ ?_
                rotate_left
                ·simp only [Act.put, List.setIfInBounds_toArray, List.set_cons_zero, List.set_cons_succ, i64_w, i32_w]
                 rfl
                refine pure_ (i := 21) (N := some 105) (v := undef) (a' := ?_) #[true, true, true, true, true, true, true, true, true, true, true, true, true, true, true, true, true, true, true, true, true, true, false, false, false, false, false, false, false, false, false, false, false, false, false, false, false, false] rfl rfl (any_of HT_.out (by kernel_rfl)) (fun _ _ _ h => h) (Or.inr ⟨by rfl, rfl⟩) ?_ ?_
                rotate_left
                ·simp only [Act.put, List.setIfInBounds_toArray, List.set_cons_zero, List.set_cons_succ, i64_w, i32_w]
                 rfl
                refine pure_ (i := 22) (N := some 106) (v := undef) (a' := ?_) #[true, true, true, true, true, true, true, true, true, true, true, true, true, true, true, true, true, true, true, true, true, true, true, false, false, false, false, false, false, false, false, false, false, false, false, false, false, false] rfl rfl (any_of HT_.out (by kernel_rfl)) (fun _ _ _ h => h) (Or.inr ⟨by rfl, rfl⟩) ?_ ?_
                rotate_left
                ·simp only [Act.put, List.setIfInBounds_toArray, List.set_cons_zero, List.set_cons_succ, i64_w, i32_w]
                 rfl
                refine pure_ (i := 23) (N := some 107) (v := undef) (a' := ?_) #[true, true, true, true, true, true, true, true, true, true, true, true, true, true, true, true, true, true, true, true, true, true, true, true, false, false, false, false, false, false, false, false, false, false, false, false, false, false] rfl rfl (any_of HT_.out (by kernel_rfl)) (fun _ _ _ h => h) (Or.inr ⟨by rfl, rfl⟩) ?_ ?_
                rotate_left
                ·simp only [Act.put, List.setIfInBounds_toArray, List.set_cons_zero, List.set_cons_succ, i64_w, i32_w]
                 rfl
                refine pure_ (i := 24) (N := some 108) (v := ?_) (a' := ?_) #[true, true, true, true, true, true, true, true, true, true, true, true, true, true, true, true, true, true, true, true, true, true, true, true, true, false, false, false, false, false, false, false, false, false, false, false, false, false] rfl rfl (any_of HT_.out (by kernel_rfl)) (fun _ _ _ h => h) (Or.inl ⟨by rfl, ?_⟩) ?_ ?_
                rotate_left
                ·intro w'
                 go_simp
                 with_reducible rfl
                rotate_left
                ·simp only [Act.put, List.setIfInBounds_toArray, List.set_cons_zero, List.set_cons_succ, i64_w, i32_w]
                 rfl
                refine pure_ (i := 25) (N := some 109) (v := ?_) (a' := ?_) #[true, true, true, true, true, true, true, true, true, true, true, true, true, true, true, true, true, true, true, true, true, true, true, true, true, true, false, false, false, false, false, false, false, false, false, false, false, false] rfl rfl (any_of HT_.out (by kernel_rfl)) (fun _ _ _ h => h) (Or.inl ⟨by rfl, ?_⟩) ?_ ?_
                rotate_left
                ·intro w'
                 go_simp
                 with_reducible rfl
                rotate_left
                ·simp only [Act.put, List.setIfInBounds_toArray, List.set_cons_zero, List.set_cons_succ, i64_w, i32_w]
                 rfl
                refine pure_ (i := 26) (N := some 110) (v := undef) (a' := ?_) #[true, true, true, true, true, true, true, true, true, true, true, true, true, true, true, true, true, true, true, true, true, true, true, true, true, true, true, false, false, false, false, false, false, false, false, false, false, false] rfl rfl (any_of HT_.out (by kernel_rfl)) (fun _ _ _ h => h) (Or.inr ⟨by rfl, rfl⟩) ?_ ?_
                rotate_left
                ·simp only [Act.put, List.setIfInBounds_toArray, List.set_cons_zero, List.set_cons_succ, i64_w, i32_w]
                 rfl
                refine pure_ (i := 27) (N := some 111) (v := undef) (a' := ?_) #[true, true, true, true, true, true, true, true, true, true, true, true, true, true, true, true, true, true, true, true, true, true, true, true, true, true, true, true, false, false, false, false, false, false, false, false, false, false] rfl rfl (any_of HT_.out (by kernel_rfl)) (fun _ _ _ h => h) (Or.inr ⟨by rfl, rfl⟩) ?_ ?_
                rotate_left
                ·simp only [Act.put, List.setIfInBounds_toArray, List.set_cons_zero, List.set_cons_succ, i64_w, i32_w]
                 rfl
                refine pure_ (i := 28) (N := some 112) (v := undef) (a' := ?_) #[true, true, true, true, true, true, true, true, true, true, true, true, true, true, true, true, true, true, true, true, true, true, true, true, true, true, true, true, true, false, false, false, false, false, false, false, false, false] rfl rfl (any_of HT_.out (by kernel_rfl)) (fun _ _ _ h => h) (Or.inr ⟨by rfl, rfl⟩) ?_ ?_
                rotate_left
                ·simp only [Act.put, List.setIfInBounds_toArray, List.set_cons_zero, List.set_cons_succ, i64_w, i32_w]
                 rfl
                refine pure_ (i := 29) (N := some 113) (v := undef) (a' := ?_) #[true, true, true, true, true, true, true, true, true, true, true, true, true, true, true, true, true, true, true, true, true, true, true, true, true, true, true, true, true, true, false, false, false, false, false, false, false, false] rfl rfl (any_of HT_.out (by kernel_rfl)) (fun _ _ _ h => h) (Or.inr ⟨by rfl, rfl⟩) ?_ ?_
                rotate_left
                ·simp only [Act.put, List.setIfInBounds_toArray, List.set_cons_zero, List.set_cons_succ, i64_w, i32_w]
                 rfl
                refine pure_ (i := 30) (N := some 114) (v := undef) (a' := ?_) #[true, true, true, true, true, true, true, true, true, true, true, true, true, true, true, true, true, true, true, true, true, true, true, true, true, true, true, true, true, true, true, false, false, false, false, false, false, false] rfl rfl (any_of HT_.out (by kernel_rfl)) (fun _ _ _ h => h) (Or.inr ⟨by rfl, rfl⟩) ?_ ?_
                rotate_left
                ·simp only [Act.put, List.setIfInBounds_toArray, List.set_cons_zero, List.set_cons_succ, i64_w, i32_w]
                 rfl
                refine pure_ (i := 31) (N := some 115) (v := undef) (a' := ?_) #[true, true, true, true, true, true, true, true, true, true, true, true, true, true, true, true, true, true, true, true, true, true, true, true, true, true, true, true, true, true, true, true, false, false, false, false, false, false] rfl rfl (any_of HT_.out (by kernel_rfl)) (fun _ _ _ h => h) (Or.inr ⟨by rfl, rfl⟩) ?_ ?_
                rotate_left
                ·simp only [Act.put, List.setIfInBounds_toArray, List.set_cons_zero, List.set_cons_succ, i64_w, i32_w]
                 rfl
                refine pure_ (i := 32) (N := some 116) (v := undef) (a' := ?_) #[true, true, true, true, true, true, true, true, true, true, true, true, true, true, true, true, true, true, true, true, true, true, true, true, true, true, true, true, true, true, true, true, true, false, false, false, false, false] rfl rfl (any_of HT_.out (by kernel_rfl)) (fun _ _ _ h => h) (Or.inr ⟨by rfl, rfl⟩) ?_ ?_
                rotate_left
                ·simp only [Act.put, List.setIfInBounds_toArray, List.set_cons_zero, List.set_cons_succ, i64_w, i32_w]
                 rfl
                refine pure_ (i := 33) (N := some 117) (v := undef) (a' := ?_) #[true, true, true, true, true, true, true, true, true, true, true, true, true, true, true, true, true, true, true, true, true, true, true, true, true, true, true, true, true, true, true, true, true, true, false, false, false, false] rfl rfl (any_of HT_.out (by kernel_rfl)) (fun _ _ _ h => h) (Or.inr ⟨by rfl, rfl⟩) ?_ ?_
                rotate_left
                ·simp only [Act.put, List.setIfInBounds_toArray, List.set_cons_zero, List.set_cons_succ, i64_w, i32_w]
                 rfl
                refine pure_ (i := 34) (N := some 118) (v := undef) (a' := ?_) #[true, true, true, true, true, true, true, true, true, true, true, true, true, true, true, true, true, true, true, true, true, true, true, true, true, true, true, true, true, true, true, true, true, true, true, false, false, false] rfl rfl (any_of HT_.out (by kernel_rfl)) (fun _ _ _ h => h) (Or.inr ⟨by rfl, rfl⟩) ?_ ?_
                rotate_left
                ·simp only [Act.put, List.setIfInBounds_toArray, List.set_cons_zero, List.set_cons_succ, i64_w, i32_w]
                 rfl
                refine pure_ (i := 35) (N := some 119) (v := undef) (a' := ?_) #[true, true, true, true, true, true, true, true, true, true, true, true, true, true, true, true, true, true, true, true, true, true, true, true, true, true, true, true, true, true, true, true, true, true, true, true, false, false] rfl rfl (any_of HT_.out (by kernel_rfl)) (fun _ _ _ h => h) (Or.inr ⟨by rfl, rfl⟩) ?_ ?_
                rotate_left
                ·simp only [Act.put, List.setIfInBounds_toArray, List.set_cons_zero, List.set_cons_succ, i64_w, i32_w]
                 rfl
                refine pure_ (i := 36) (N := some 120) (v := undef) (a' := ?_) #[true, true, true, true, true, true, true, true, true, true, true, true, true, true, true, true, true, true, true, true, true, true, true, true, true, true, true, true, true, true, true, true, true, true, true, true, true, false] rfl rfl (any_of HT_.out (by kernel_rfl)) (fun _ _ _ h => h) (Or.inr ⟨by rfl, rfl⟩) ?_ ?_
                rotate_left
                ·simp only [Act.put, List.setIfInBounds_toArray, List.set_cons_zero, List.set_cons_succ, i64_w, i32_w]
                 rfl
                refine pure_ (i := 37) (N := some 121) (v := ?_) (a' := ?_) #[true, true, true, true, true, true, true, true, true, true, true, true, true, true, true, true, true, true, true, true, true, true, true, true, true, true, true, true, true, true, true, true, true, true, true, true, true, true] rfl rfl (any_of HT_.out (by kernel_rfl)) (fun _ _ _ h => h) (Or.inl ⟨by rfl, ?_⟩) ?_ ?_
                rotate_left
                ·intro w'
                 go_simp
                 with_reducible rfl
                rotate_left
                ·simp only [Act.put, List.setIfInBounds_toArray, List.set_cons_zero, List.set_cons_succ, i64_w, i32_w]
                 rfl
                refine done_ (done_of HT_.out (by kernel_rfl)) ?_
                try go_wp2
                go_ret
                exact ⟨by first | rfl | (simp [errW_none, errW_some] <;> rfl) | (simp [*, errW_none, errW_some] <;> rfl), by repeat (first | (with_reducible first | exact HB.out | apply below_alloc | apply pw_below_drewN | apply below_drew1 | refine below_set ?_ GE315.out | refine below_set ?_ GE316.out | refine below_set ?_ GE324.out | refine below_set ?_ GE325.out) | exact HB.out)⟩
              ·rw [if_neg c92] at H
               exact absurd H (by simp)
             ·rw [if_neg c91] at H
              exact absurd H (by simp)
            ·rw [if_neg c90] at H
             exact absurd H (by simp)
           ·rw [if_neg c89] at H
            have c89b0 : decide (x81_4 < (t326.length : Int)) = false := decide_eq_false c89
            clear c89
            obtain rfl := Option.some.inj H
            go_wp2
            go_ret
            exact ⟨by first | rfl | (simp [errW_none, errW_some] <;> rfl) | (simp [*, errW_none, errW_some] <;> rfl), by repeat (first | (with_reducible first | exact HB.out | apply below_alloc | apply pw_below_drewN | apply below_drew1 | refine below_set ?_ GE315.out | refine below_set ?_ GE316.out | refine below_set ?_ GE324.out | refine below_set ?_ GE325.out) | exact HB.out)⟩
end Go.Proofs.Ytblonchpophnkaa.F
