-- The machine side of a proof, written by a program of the session out of Lean's print of the loaded functions. Lean checks it.
import Derived.Test.YtblonchpophnkaaFm1
import Derived.Test.YtblonchpophnkaaHn
import Derived.Test.YtblonchpophnkaaWc
import Derived.Test.YtblonchpophnkaaWp
import Derived.Test.YtblonchpophnkaaFx0
import Derived.Test.YtblonchpophnkaaFx1
import Derived.Test.YtblonchpophnkaaFx13
import Derived.Test.YtblonchpophnkaaFx25
import Derived.Test.YtblonchpophnkaaFp32
import Derived.Test.YtblonchpophnkaaFm33
namespace Go.Proofs.Ytblonchpophnkaa.F
open Go.RowKit Go.Proofs.YtblonchpophnkaaW.PrintWords Go.Proofs.YtblonchpophnkaaW.PrintLast Go.Proofs.YtblonchpophnkaaW.PrintMore
attribute [local go_sem] max2_int min2_int max_two min_two max_three min_three max_four min_four   -- for this text's walks alone
set_option linter.unusedVariables false
set_option linter.unusedSimpArgs false
attribute [local go_sem high] eqA23 eqA51
mutual
def swarflaw33_InterpolateMotions.j0 : Nat → List (S27) → Int → Bool → Int → Int → Int → Option (Bool)
 | 0, _, _, _, _, _, _ => none
 | k + 1, x1, x2, x20, x290000, x290001, x290002 => if x20 = true then ((swarflaw33_awake.f k).bind fun t292 => (some t292)) else ((some (([] : List (S27)) : List (S27))).bind fun y293 => (if y293.length + x1.length < 2513169434916 then ((interpolate_Motions.f k x290000 x290001 x290002 (y293 ++ x1) x2).bind fun bt299 => ((swarfref33_Motions.f k x290000 x290001 x290002 x1 x2).bind fun bt303 => (if bt299.2 = bt303.2 then (swarflaw33_InterpolateMotions.j1 k x1 bt299.1 bt299.2 bt303.1 ((bt299.1.length : Int) != (bt303.1.length : Int)) x290000 x290001 x290002) else (swarflaw33_InterpolateMotions.j1 k x1 bt299.1 bt299.2 bt303.1 true x290000 x290001 x290002)))) else (none)))
def swarflaw33_InterpolateMotions.j1 : Nat → List (S27) → List (S51) → Int → List (S51) → Bool → Int → Int → Int → Option (Bool)
 | 0, _, _, _, _, _, _, _, _ => none
 | k + 1, x1, x7, x8, x9, x47, x290000, x290001, x290002 => if x47 = true then (some false) else (swarflaw33_InterpolateMotions.l0 k x1 x7 x8 x9 (x7.length : Int) 0 x290000 x290001 x290002 x290000 x290001 x290002)
def swarflaw33_InterpolateMotions.l0 : Nat → List (S27) → List (S51) → Int → List (S51) → Int → Int → Int → Int → Int → Int → Int → Int → Option (Bool)
 | 0, _, _, _, _, _, _, _, _, _, _, _, _ => none
 | k + 1, x1, x7, x8, x9, x50, x51, x290000, x290001, x290002, x308000, x308001, x308002 => if x51 < x50 then (if 0 ≤ x51 then (if x51 < (x7.length : Int) then (if x51 < (x9.length : Int) then (if ((!(((rd_T51 x7 x51).f0.f0) == ((rd_T51 x9 x51).f0.f0)) || (!(((rd_T51 x7 x51).f0.f1) == ((rd_T51 x9 x51).f0.f1)) || (!(((rd_T51 x7 x51).f0.f2) == ((rd_T51 x9 x51).f0.f2))))) || ((!(((rd_T51 x7 x51).f1.f0) == ((rd_T51 x9 x51).f1.f0)) || (!(((rd_T51 x7 x51).f1.f1) == ((rd_T51 x9 x51).f1.f1)) || (!(((rd_T51 x7 x51).f1.f2) == ((rd_T51 x9 x51).f1.f2))))) || (!(((rd_T51 x7 x51).f2) == ((rd_T51 x9 x51).f2)) || (!(((rd_T51 x7 x51).f3) == ((rd_T51 x9 x51).f3)) || (!(((rd_T51 x7 x51).f4) == ((rd_T51 x9 x51).f4))))))) = true then (some false) else (if (!(((rd_T51 x7 x51).f0.f0) == x308000) || (!(((rd_T51 x7 x51).f0.f1) == x308001) || (!(((rd_T51 x7 x51).f0.f2) == x308002)))) = true then (some false) else (if (((rd_T51 x7 x51).f0.f0) == ((rd_T51 x7 x51).f1.f0) && (((rd_T51 x7 x51).f0.f1) == ((rd_T51 x7 x51).f1.f1) && (((rd_T51 x7 x51).f0.f2) == ((rd_T51 x7 x51).f1.f2)))) = true then (some false) else (swarflaw33_InterpolateMotions.l0 k x1 x7 x8 x9 x50 (wrap64 (x51 + 1)) x290000 x290001 x290002 ((rd_T51 x7 x51).f1.f0) ((rd_T51 x7 x51).f1.f1) ((rd_T51 x7 x51).f1.f2))))) else (none)) else (none)) else (none)) else (if x8 = 0 then ((swarfref33_End.f x290000 x290001 x290002 x1).bind fun bt314 => (some (x308000 == bt314.1 && (x308001 == bt314.2.1 && (x308002 == bt314.2.2))))) else (some true))
end
def swarflaw33_InterpolateMotions.f (k : Nat) (a0_0 : Int) (a0_1 : Int) (a0_2 : Int) (l1 : List (S27)) (a2 : Int) : Option (Bool) := (swarflaw33_awake.f k).bind fun t290 => (if t290 = true then ((swarfref33_Few.f k a0_0 a0_1 a0_2 l1 12).bind fun t291 => (swarflaw33_InterpolateMotions.j0 k l1 a2 (!t291) a0_0 a0_1 a0_2)) else (swarflaw33_InterpolateMotions.j0 k l1 a2 true a0_0 a0_1 a0_2))
theorem swarflaw33_InterpolateMotions.mono_l : ∀ k, (∀ y0 y1 y2 y3 y4 y5, LeO (swarflaw33_InterpolateMotions.j0 k y0 y1 y2 y3 y4 y5) (swarflaw33_InterpolateMotions.j0 (k + 1) y0 y1 y2 y3 y4 y5)) ∧ (∀ y0 y1 y2 y3 y4 y5 y6 y7, LeO (swarflaw33_InterpolateMotions.j1 k y0 y1 y2 y3 y4 y5 y6 y7) (swarflaw33_InterpolateMotions.j1 (k + 1) y0 y1 y2 y3 y4 y5 y6 y7)) ∧ (∀ y0 y1 y2 y3 y4 y5 y6 y7 y8 y9 y10 y11, LeO (swarflaw33_InterpolateMotions.l0 k y0 y1 y2 y3 y4 y5 y6 y7 y8 y9 y10 y11) (swarflaw33_InterpolateMotions.l0 (k + 1) y0 y1 y2 y3 y4 y5 y6 y7 y8 y9 y10 y11))
 | 0 => ⟨fun _ _ _ _ _ _ r h => by simp [swarflaw33_InterpolateMotions.j0] at h, fun _ _ _ _ _ _ _ _ r h => by simp [swarflaw33_InterpolateMotions.j1] at h, fun _ _ _ _ _ _ _ _ _ _ _ _ r h => by simp [swarflaw33_InterpolateMotions.l0] at h⟩
 | k + 1 => by
  obtain ⟨ih0, ih1, ih2⟩ := swarflaw33_InterpolateMotions.mono_l k
  refine ⟨?_, ?_, ?_⟩
  ·intro y0 y1 y2 y3 y4 y5
   unfold swarflaw33_InterpolateMotions.j0
   repeat' first
   | (with_reducible exact ih0 _ _ _ _ _ _)
   | (with_reducible exact ih1 _ _ _ _ _ _ _ _)
   | (with_reducible exact ih2 _ _ _ _ _ _ _ _ _ _ _ _)
   | (with_reducible exact interpolate_Motions.mono _ _ _ _ _ _)
   | (with_reducible exact swarflaw33_awake.mono _)
   | (with_reducible exact swarfref33_Few.mono _ _ _ _ _ _)
   | (with_reducible exact swarfref33_Motions.mono _ _ _ _ _ _)
   | (with_reducible exact LeO.refl _)
   | (with_reducible exact LeO.none _)
   | (with_reducible refine LeO.ite ?_ ?_)
   | (with_reducible refine LeO.bind ?_ (fun _ => ?_))
   | exact ih0 _ _ _ _ _ _
   | exact ih1 _ _ _ _ _ _ _ _
   | exact ih2 _ _ _ _ _ _ _ _ _ _ _ _
   | exact interpolate_Motions.mono _ _ _ _ _ _
   | exact swarflaw33_awake.mono _
   | exact swarfref33_Few.mono _ _ _ _ _ _
   | exact swarfref33_Motions.mono _ _ _ _ _ _
   | exact LeO.none _
   | refine LeO.ite ?_ ?_
   | refine LeO.bind ?_ (fun _ => ?_)
  ·intro y0 y1 y2 y3 y4 y5 y6 y7
   unfold swarflaw33_InterpolateMotions.j1
   repeat' first
   | (with_reducible exact ih0 _ _ _ _ _ _)
   | (with_reducible exact ih1 _ _ _ _ _ _ _ _)
   | (with_reducible exact ih2 _ _ _ _ _ _ _ _ _ _ _ _)
   | (with_reducible exact interpolate_Motions.mono _ _ _ _ _ _)
   | (with_reducible exact swarflaw33_awake.mono _)
   | (with_reducible exact swarfref33_Few.mono _ _ _ _ _ _)
   | (with_reducible exact swarfref33_Motions.mono _ _ _ _ _ _)
   | (with_reducible exact LeO.refl _)
   | (with_reducible exact LeO.none _)
   | (with_reducible refine LeO.ite ?_ ?_)
   | (with_reducible refine LeO.bind ?_ (fun _ => ?_))
   | exact ih0 _ _ _ _ _ _
   | exact ih1 _ _ _ _ _ _ _ _
   | exact ih2 _ _ _ _ _ _ _ _ _ _ _ _
   | exact interpolate_Motions.mono _ _ _ _ _ _
   | exact swarflaw33_awake.mono _
   | exact swarfref33_Few.mono _ _ _ _ _ _
   | exact swarfref33_Motions.mono _ _ _ _ _ _
   | exact LeO.none _
   | refine LeO.ite ?_ ?_
   | refine LeO.bind ?_ (fun _ => ?_)
  ·intro y0 y1 y2 y3 y4 y5 y6 y7 y8 y9 y10 y11
   unfold swarflaw33_InterpolateMotions.l0
   repeat' first
   | (with_reducible exact ih0 _ _ _ _ _ _)
   | (with_reducible exact ih1 _ _ _ _ _ _ _ _)
   | (with_reducible exact ih2 _ _ _ _ _ _ _ _ _ _ _ _)
   | (with_reducible exact interpolate_Motions.mono _ _ _ _ _ _)
   | (with_reducible exact swarflaw33_awake.mono _)
   | (with_reducible exact swarfref33_Few.mono _ _ _ _ _ _)
   | (with_reducible exact swarfref33_Motions.mono _ _ _ _ _ _)
   | (with_reducible exact LeO.refl _)
   | (with_reducible exact LeO.none _)
   | (with_reducible refine LeO.ite ?_ ?_)
   | (with_reducible refine LeO.bind ?_ (fun _ => ?_))
   | exact ih0 _ _ _ _ _ _
   | exact ih1 _ _ _ _ _ _ _ _
   | exact ih2 _ _ _ _ _ _ _ _ _ _ _ _
   | exact interpolate_Motions.mono _ _ _ _ _ _
   | exact swarflaw33_awake.mono _
   | exact swarfref33_Few.mono _ _ _ _ _ _
   | exact swarfref33_Motions.mono _ _ _ _ _ _
   | exact LeO.none _
   | refine LeO.ite ?_ ?_
   | refine LeO.bind ?_ (fun _ => ?_)
theorem swarflaw33_InterpolateMotions.mono : ∀ a0 a1 a2 a3 a4 k, LeO (swarflaw33_InterpolateMotions.f k a0 a1 a2 a3 a4) (swarflaw33_InterpolateMotions.f (k + 1) a0 a1 a2 a3 a4) := by
 intro a0 a1 a2 a3 a4 k
 obtain ⟨ih0, ih1, ih2⟩ := swarflaw33_InterpolateMotions.mono_l k
 unfold swarflaw33_InterpolateMotions.f
 repeat' first
   | (with_reducible exact ih0 _ _ _ _ _ _)
   | (with_reducible exact ih1 _ _ _ _ _ _ _ _)
   | (with_reducible exact ih2 _ _ _ _ _ _ _ _ _ _ _ _)
   | (with_reducible exact interpolate_Motions.mono _ _ _ _ _ _)
   | (with_reducible exact swarflaw33_awake.mono _)
   | (with_reducible exact swarfref33_Few.mono _ _ _ _ _ _)
   | (with_reducible exact swarfref33_Motions.mono _ _ _ _ _ _)
   | (with_reducible exact LeO.refl _)
   | (with_reducible exact LeO.none _)
   | (with_reducible refine LeO.ite ?_ ?_)
   | (with_reducible refine LeO.bind ?_ (fun _ => ?_))
   | exact ih0 _ _ _ _ _ _
   | exact ih1 _ _ _ _ _ _ _ _
   | exact ih2 _ _ _ _ _ _ _ _ _ _ _ _
   | exact interpolate_Motions.mono _ _ _ _ _ _
   | exact swarflaw33_awake.mono _
   | exact swarfref33_Few.mono _ _ _ _ _ _
   | exact swarfref33_Motions.mono _ _ _ _ _ _
   | exact LeO.none _
   | refine LeO.ite ?_ ?_
   | refine LeO.bind ?_ (fun _ => ?_)
def swarflaw33_InterpolateMotions.T3 : Bool × List (List Nat × List Nat) := (true, [([], []), ([], []), ([], []), ([1, 2], [1, 2]), ([], []), ([0, 3, 4, 3], [0, 3, 4]), ([5], [5]), ([6], [6]), ([6], [6]), ([7, 5, 0, 1, 2, 3, 4, 5, 6, 7], [7]), ([8, 9, 0, 1, 2, 3, 4, 5, 6, 7, 8, 9], [8])])
def swarflaw33_InterpolateMotions.B3 : List Nat := [0, 0, 0, 6, 0, 31, 63, 127, 127, 255, 1023]
theorem swarflaw33_InterpolateMotions.tab3 : rtab .any (opsOf Try.f10 3) = swarflaw33_InterpolateMotions.T3 := by kernel_rfl
theorem swarflaw33_InterpolateMotions.bits3 : waitsOk swarflaw33_InterpolateMotions.T3.2 swarflaw33_InterpolateMotions.B3 = true := by kernel_rfl
def swarflaw33_InterpolateMotions.T11 : Bool × List (List Nat × List Nat) := (true, [([], []), ([], []), ([0, 1], [0, 1]), ([2], [2]), ([], []), ([], []), ([4, 5], [4, 5]), ([6], [6]), ([3, 7], [3, 7]), ([8], [8]), ([9], [9]), ([9], [9]), ([10, 11, 9], [9, 10, 11]), ([12, 9], [9, 12]), ([13, 9], [9, 13]), ([9], [9]), ([14, 15, 9], [9, 14, 15]), ([9, 16], [9, 16]), ([17, 9], [17]), ([18], [18]), ([18], [18]), ([19, 20, 18], [18, 19, 20]), ([21, 18], [18, 21]), ([22, 18], [18, 22]), ([18], [18]), ([18], [18]), ([24, 25, 18], [18, 24, 25]), ([26, 18], [18, 26]), ([27, 18], [18, 27]), ([23, 28, 18], [18, 23, 28]), ([18, 29], [18, 29])])
def swarflaw33_InterpolateMotions.B11 : List Nat := [0, 0, 3, 7, 0, 0, 48, 112, 255, 511, 1023, 1023, 4095, 8191, 16383, 1023, 65535, 131071, 262143, 524287, 524287, 2097151, 4194303, 8388607, 524287, 524287, 50855935, 117964799, 252182527, 536870911, 1073741823]
theorem swarflaw33_InterpolateMotions.tab11 : rtab .any (opsOf Try.f10 11) = swarflaw33_InterpolateMotions.T11 := by kernel_rfl
theorem swarflaw33_InterpolateMotions.bits11 : waitsOk swarflaw33_InterpolateMotions.T11.2 swarflaw33_InterpolateMotions.B11 = true := by kernel_rfl
def swarflaw33_InterpolateMotions.T15 : Bool × List (List Nat × List Nat) := (true, [([], []), ([0], [0]), ([1], [1]), ([2], [2]), ([2], [2]), ([2], [2]), ([4, 5, 2, 2], [2, 4, 5]), ([3, 6, 2], [2, 3, 6]), ([2, 7], [2, 7]), ([8, 6, 0, 1, 2, 3, 4, 5, 6, 7, 8], [8])])
def swarflaw33_InterpolateMotions.B15 : List Nat := [0, 1, 3, 7, 7, 7, 55, 127, 255, 511]
theorem swarflaw33_InterpolateMotions.tab15 : rtab .any (opsOf Try.f10 15) = swarflaw33_InterpolateMotions.T15 := by kernel_rfl
theorem swarflaw33_InterpolateMotions.bits15 : waitsOk swarflaw33_InterpolateMotions.T15.2 swarflaw33_InterpolateMotions.B15 = true := by kernel_rfl
set_option maxHeartbeats 8000000 in
set_option maxRecDepth 100000 in
theorem swarflaw33_InterpolateMotions.calls (k : Nat) (a0_0 : Int) (a0_1 : Int) (a0_2 : Int) (A1 : Option Addr) (c1 : Nat) (l1 : List (S27)) (a2 : Int) (r : Bool) (w : World) (hr1 : Kd.C k27 w A1 l1.length l1) (hc1 : l1.length ≤ c1) (h : swarflaw33_InterpolateMotions.f k a0_0 a0_1 a0_2 l1 a2 = some r) :
  Calls Try.prog 10 #[.agg #[.int .i64 a0_0, .int .i64 a0_1, .int .i64 a0_2], .slice A1 l1.length c1, .int .i64 a2] w fun e w' => e = .returned (.bool r) ∧ Below w.heap.size w w' := by
 have hu23 := Try.underlying23
 have hu51 := Try.underlying51
 have HR1 := Aside0.mk hr1
 have HC1 := Aside0.mk hc1
 clear hr1 hc1
 have HB := Aside0.mk (Below.refl w.heap.size w)
 have H : ((swarflaw33_awake.f k).bind fun t290 => (if t290 = true then ((swarfref33_Few.f k a0_0 a0_1 a0_2 l1 12).bind fun t291 => (swarflaw33_InterpolateMotions.j0 k l1 a2 (!t291) a0_0 a0_1 a0_2)) else (swarflaw33_InterpolateMotions.j0 k l1 a2 true a0_0 a0_1 a0_2))) = some r := h
 clear h
 have HC4 := Aside0.mk H
 clear H
 go_enter Try.func10, Try.ntmps10
 go_upto_region 1 with (first | ((with_reducible refine gate_dst (N := 3) rfl ?_); (try (refine gate_guard (by rfl) ?_; dsimp only)); refine box_event ?hg (N := 3) ?hd (cs := #[.int .i64 a0_0, .int .i64 a0_1, .int .i64 a0_2]) (t := 23) ?hr ?_; (case hd => rfl); (case hg => rfl); (case hr => first | (go_simp; done) | (go_simp; rfl)); intro gb289 hg w5 hbox hb; have n0_ := Aside0.mk (below_step (by first | exact HB.out | exact pw_below_drewN HB.out _) hb); have n1_ := Aside0.mk (hbox); have n2_ := Aside0.mk ((by rw [hg]; exact (below_size (by first | exact HB.out | exact pw_below_drewN HB.out _)) : w.heap.size ≤ gb289)); have n3_ := Aside0.mk ((by rw [hg]; exact (below_size (by first | exact HB.out | exact pw_below_drewN HB.out _)) : w.heap.size ≤ gb289)); clear HB; have HB := n0_; have BK289 := n1_; have GW289 := n2_; have GE289 := n3_; clear n0_ n1_ n2_ n3_; clear hb hbox hg))
 (try simp only [Act.put, List.setIfInBounds_toArray, List.set_cons_zero, List.set_cons_succ])
 go_cut [20] (fun v20 wc => ∃ (kq : Nat) (x20_3 : Bool), v20 = .bool x20_3 ∧ Aside0 (swarflaw33_InterpolateMotions.j0 kq l1 a2 x20_3 a0_0 a0_1 a0_2 = some r) ∧ Aside0 (kq ≤ k) ∧ Aside0 (wc.heap[gb289]? = some (.cells #[.int .i64 a0_0, .int .i64 a0_1, .int .i64 a0_2] 23 (0, 0))) ∧ Aside0 (Below w.heap.size w wc))
 case first =>
  have H := HC4.out
  clear HC4
  replace H := Option.bind_eq_some_iff.mp H
  obtain ⟨t290, A60, H⟩ := H
  replace H : (if t290 = true then ((swarfref33_Few.f k a0_0 a0_1 a0_2 l1 12).bind fun t291 => (swarflaw33_InterpolateMotions.j0 k l1 a2 (!t291) a0_0 a0_1 a0_2)) else (swarflaw33_InterpolateMotions.j0 k l1 a2 true a0_0 a0_1 a0_2)) = some r := H
  have A6 := Aside0.mk A60
  clear A60
  by_cases c7 : t290 = true
  ·subst c7
   have H1 : ((swarfref33_Few.f k a0_0 a0_1 a0_2 l1 12).bind fun t291 => (swarflaw33_InterpolateMotions.j0 k l1 a2 (!t291) a0_0 a0_1 a0_2)) = some r := by rw [if_pos rfl] at H; exact H
   clear H
   have H := H1
   clear H1
   replace H := Option.bind_eq_some_iff.mp H
   obtain ⟨t291, A80, H⟩ := H
   replace H : (swarflaw33_InterpolateMotions.j0 k l1 a2 (!t291) a0_0 a0_1 a0_2) = some r := H
   have A8 := Aside0.mk A80
   clear A80
   have H' := Aside0.mk H
   clear H
   go_wp2_with (first | ((with_reducible refine gate_callee (f := 11) rfl ?_); refine goesL_ (some 13) rfl rfl Try.func11 (by kernel_rfl) rfl #[] rfl (by (try simp only [List.map_toArray, List.map_cons, List.map_nil]); first | done | rfl | (simp only [List.length_drop, List.length_take]; rfl)) ?_; (with_reducible refine (swarflaw33_awake.calls k  true _ A6.out).mono ?_); rintro e w9 ⟨rfl, hb⟩; refine ⟨_, rfl, ?_⟩; have n0_ := Aside0.mk (blk_below (by exact BK289.out) hb); have n1_ := Aside0.mk (below_step (by first | exact HB.out | exact pw_below_drewN HB.out _) hb); clear BK289; clear HB; have BK289 := n0_; have HB := n1_; clear n0_ n1_; (try clear hb); (try clear hb2); (try clear hk); (try clear hi); obtain ⟨hcz10_0, hcz10_1, hcz10_2⟩ := cells3 BK289.out; have hfz10_0 := blk_frozen BK289.out 0; have hfz10_1 := blk_frozen BK289.out 1; have hfz10_2 := blk_frozen BK289.out 2) | (go_at_call 17; (with_reducible refine (swarfref33_Few.calls k a0_0 a0_1 a0_2 _ _ l1 12 t291 _ ?side1 ?side2 A8.out).mono ?_); (case side1 => repeat (first | exact (Kd.C_below HR1.out HB.out) | (with_reducible refine Kd.C_alloc ?_ _) | (with_reducible refine Kd.C_drewN ?_ _) | (with_reducible refine Kd.C_drew ?_))); (case side2 => exact HC1.out); rintro e w11 ⟨rfl, hb⟩; have n0_ := Aside0.mk (blk_below (by exact BK289.out) hb); have n1_ := Aside0.mk (below_step (by first | exact HB.out | exact pw_below_drewN HB.out _) hb); clear BK289; clear HB; have BK289 := n0_; have HB := n1_; clear n0_ n1_; (try clear hb); (try clear hb2); (try clear hk); (try clear hi)))
   go_meet
   case rel => exact ⟨_, (!t291), (by first | rfl | (simp; done) | (simp [*]; done)), H', ⟨by first | omega | exact Nat.le_refl _⟩, ⟨by (with_reducible repeat (first | refine blk_drewN ?_ _ | refine blk_drew ?_ | refine blk_alloc ?_ _)); exact BK289.out⟩, ⟨by repeat (first | (with_reducible first | exact HB.out | apply below_alloc | apply pw_below_drewN | apply below_drew1 | refine below_set ?_ GE289.out) | exact HB.out)⟩⟩
  ·replace c7 := Bool.eq_false_iff.mpr c7
   subst c7
   have H1 : (swarflaw33_InterpolateMotions.j0 k l1 a2 true a0_0 a0_1 a0_2) = some r := by rw [if_neg (show ¬ (false = true) by decide)] at H; exact H
   clear H
   have H := H1
   clear H1
   have H' := Aside0.mk H
   clear H
   go_wp2_with (first | ((with_reducible refine gate_callee (f := 11) rfl ?_); refine goesL_ (some 13) rfl rfl Try.func11 (by kernel_rfl) rfl #[] rfl (by (try simp only [List.map_toArray, List.map_cons, List.map_nil]); first | done | rfl | (simp only [List.length_drop, List.length_take]; rfl)) ?_; (with_reducible refine (swarflaw33_awake.calls k  false _ A6.out).mono ?_); rintro e w12 ⟨rfl, hb⟩; refine ⟨_, rfl, ?_⟩; have n0_ := Aside0.mk (blk_below (by exact BK289.out) hb); have n1_ := Aside0.mk (below_step (by first | exact HB.out | exact pw_below_drewN HB.out _) hb); clear BK289; clear HB; have BK289 := n0_; have HB := n1_; clear n0_ n1_; (try clear hb); (try clear hb2); (try clear hk); (try clear hi)))
   go_meet
   case rel => exact ⟨_, (true), (by first | rfl | (simp; done) | (simp [*]; done)), H', ⟨by first | omega | exact Nat.le_refl _⟩, ⟨by (with_reducible repeat (first | refine blk_drewN ?_ _ | refine blk_drew ?_ | refine blk_alloc ?_ _)); exact BK289.out⟩, ⟨by repeat (first | (with_reducible first | exact HB.out | apply below_alloc | apply pw_below_drewN | apply below_drew1 | refine below_set ?_ GE289.out) | exact HB.out)⟩⟩
 case rest =>
  clear HC4
  try clear c1
  try clear p2
  try clear c7
  try clear c10
  try clear c11
  obtain ⟨kq, x20_3, rfl, HA, HJ3, BK289, HB⟩ := hcut
  cases kq with
  | zero => exact absurd HA.out (by simp [swarflaw33_InterpolateMotions.j0])
  | succ kj3 =>
   have H := HA.out
   clear HA
   simp only [swarflaw33_InterpolateMotions.j0] at H
   by_cases c13 : x20_3 = true
   ·subst c13
    have H1 : ((swarflaw33_awake.f kj3).bind fun t292 => (some t292)) = some r := by rw [if_pos rfl] at H; exact H
    clear H
    have H := H1
    clear H1
    replace H := Option.bind_eq_some_iff.mp H
    obtain ⟨t292, A140, H⟩ := H
    replace H : (some t292) = some r := H
    have A14 := Aside0.mk A140
    clear A140
    obtain rfl := Option.some.inj H
    go_wp2_with (first | ((with_reducible refine gate_callee (f := 11) rfl ?_); refine goesL_ (some 21) rfl rfl Try.func11 (by kernel_rfl) rfl #[] rfl (by (try simp only [List.map_toArray, List.map_cons, List.map_nil]); first | done | rfl | (simp only [List.length_drop, List.length_take]; rfl)) ?_; (with_reducible refine (swarflaw33_awake.calls kj3  t292 _ A14.out).mono ?_); rintro e w15 ⟨rfl, hb⟩; refine ⟨_, rfl, ?_⟩; have n0_ := Aside0.mk (blk_below (by exact BK289.out) hb); have n1_ := Aside0.mk (below_step (by first | exact HB.out | exact pw_below_drewN HB.out _) hb); clear BK289; clear HB; have BK289 := n0_; have HB := n1_; clear n0_ n1_; (try clear hb); (try clear hb2); (try clear hk); (try clear hi)))
    go_ret
    exact ⟨by first | rfl | (simp [errW_none, errW_some] <;> rfl) | (simp [*, errW_none, errW_some] <;> rfl), by repeat (first | (with_reducible first | exact HB.out | apply below_alloc | apply pw_below_drewN | apply below_drew1 | refine below_set ?_ GE289.out) | exact HB.out)⟩
   ·replace c13 := Bool.eq_false_iff.mpr c13
    subst c13
    have H1 : ((some (([] : List (S27)) : List (S27))).bind fun y293 => (if y293.length + l1.length < 2513169434916 then ((interpolate_Motions.f kj3 a0_0 a0_1 a0_2 (y293 ++ l1) a2).bind fun bt299 => ((swarfref33_Motions.f kj3 a0_0 a0_1 a0_2 l1 a2).bind fun bt303 => (if bt299.2 = bt303.2 then (swarflaw33_InterpolateMotions.j1 kj3 l1 bt299.1 bt299.2 bt303.1 ((bt299.1.length : Int) != (bt303.1.length : Int)) a0_0 a0_1 a0_2) else (swarflaw33_InterpolateMotions.j1 kj3 l1 bt299.1 bt299.2 bt303.1 true a0_0 a0_1 a0_2)))) else (none))) = some r := by rw [if_neg (show ¬ (false = true) by decide)] at H; exact H
    clear H
    have H := H1
    clear H1
    obtain ⟨y293, hy293⟩ : ∃ y_ : List (S27), y_ = (([] : List (S27))) := ⟨_, rfl⟩
    replace H : (if y293.length + l1.length < 2513169434916 then ((interpolate_Motions.f kj3 a0_0 a0_1 a0_2 (y293 ++ l1) a2).bind fun bt299 => ((swarfref33_Motions.f kj3 a0_0 a0_1 a0_2 l1 a2).bind fun bt303 => (if bt299.2 = bt303.2 then (swarflaw33_InterpolateMotions.j1 kj3 l1 bt299.1 bt299.2 bt303.1 ((bt299.1.length : Int) != (bt303.1.length : Int)) a0_0 a0_1 a0_2) else (swarflaw33_InterpolateMotions.j1 kj3 l1 bt299.1 bt299.2 bt303.1 true a0_0 a0_1 a0_2)))) else (none)) = some r := by first | (rw [hy293]; with_reducible exact H) | (have H2_ := (Option.bind_some _ _).symm.trans H; rw [hy293]; with_reducible exact H2_) | (have H2_ := (Option.bind_some _ _).symm.trans H; with_reducible exact H2_) | with_reducible exact H | (rw [hy293]; exact H) | exact H
    have Ny293 := Aside0.mk hy293
    clear hy293
    by_cases c16 : y293.length + l1.length < 2513169434916
    ·rw [if_pos c16] at H
     have LMc16 := Aside0.mk c16
     clear c16
     obtain ⟨y296, hy296⟩ : ∃ y_ : List (S27), y_ = (y293 ++ l1) := ⟨_, rfl⟩
     replace H : ((interpolate_Motions.f kj3 a0_0 a0_1 a0_2 y296 a2).bind fun bt299 => ((swarfref33_Motions.f kj3 a0_0 a0_1 a0_2 l1 a2).bind fun bt303 => (if bt299.2 = bt303.2 then (swarflaw33_InterpolateMotions.j1 kj3 l1 bt299.1 bt299.2 bt303.1 ((bt299.1.length : Int) != (bt303.1.length : Int)) a0_0 a0_1 a0_2) else (swarflaw33_InterpolateMotions.j1 kj3 l1 bt299.1 bt299.2 bt303.1 true a0_0 a0_1 a0_2)))) = some r := by first | (rw [hy296]; with_reducible exact H) | (have H2_ := (Option.bind_some _ _).symm.trans H; rw [hy296]; with_reducible exact H2_) | (have H2_ := (Option.bind_some _ _).symm.trans H; with_reducible exact H2_) | with_reducible exact H | (rw [hy296]; exact H) | exact H
     have Ny296 := Aside0.mk hy296
     clear hy296
     replace H := Option.bind_eq_some_iff.mp H
     obtain ⟨⟨t299, t302⟩, A170, H⟩ := H
     replace H : ((swarfref33_Motions.f kj3 a0_0 a0_1 a0_2 l1 a2).bind fun bt303 => (if t302 = bt303.2 then (swarflaw33_InterpolateMotions.j1 kj3 l1 t299 t302 bt303.1 ((t299.length : Int) != (bt303.1.length : Int)) a0_0 a0_1 a0_2) else (swarflaw33_InterpolateMotions.j1 kj3 l1 t299 t302 bt303.1 true a0_0 a0_1 a0_2))) = some r := H
     have A17 := Aside0.mk A170
     clear A170
     replace H := Option.bind_eq_some_iff.mp H
     obtain ⟨⟨t303, t306⟩, A180, H⟩ := H
     replace H : (if t302 = t306 then (swarflaw33_InterpolateMotions.j1 kj3 l1 t299 t302 t303 ((t299.length : Int) != (t303.length : Int)) a0_0 a0_1 a0_2) else (swarflaw33_InterpolateMotions.j1 kj3 l1 t299 t302 t303 true a0_0 a0_1 a0_2)) = some r := H
     have A18 := Aside0.mk A180
     clear A180
     have HC19 := Aside0.mk H
     clear H
     try go_wp2
     have n0_ := Aside0.mk (blk_drew BK289.out)
     have n1_ := Aside0.mk (below_drew1 HB.out)
     clear BK289
     clear HB
     have BK289 := n0_
     have HB := n1_
     clear n0_ n1_
     refine start_ (n := 11) (S := fun w' => w'.cell? ⟨gb289, 0, none⟩ = some (.int .i64 a0_0) ∧ w'.cell? ⟨gb289, 1, none⟩ = some (.int .i64 a0_1) ∧ w'.cell? ⟨gb289, 2, none⟩ = some (.int .i64 a0_2)) (ds := []) #[false, false, false, false, false, false, false, false, false, false, false] (by kernel_rfl) rfl rfl ⟨(blk_cell BK289.out 0).trans rfl, (blk_cell BK289.out 1).trans rfl, (blk_cell BK289.out 2).trans rfl⟩ (fun hHeld => ?_); refine with_tabW swarflaw33_InterpolateMotions.tab3 swarflaw33_InterpolateMotions.bits3 (fun HT_ HW_ => ?_)
     generalize wc.drew = w20 at BK289 HB hHeld ⊢
     refine pu 2 25 (bzz 11 4) (any_of HT_.out (by kernel_rfl)) ?_
     refine pu 4 27 (bzz 11 20) (any_of HT_.out (by kernel_rfl)) ?_
     refine ta 0 23 (bzz 11 21) (take_ofW HT_.out HW_.out (by kernel_rfl)) hHeld ?_
     refine one_ (i := 1) (N := some 24) (bzz 11 23) rfl rfl (one_of HT_.out (by kernel_rfl)) (by decide) (fun K hK => ?_)
     refine Kd.R_lit_step k27 _ 27 ?hg (N := 24) ?hd (xs := ([] : List (S27))) (inner := []) (ok := fun _ => True) (okp := fun _ => True) ?hr ?hp (fun _ hk => hk) trivial (Below.refl _ _) (Nat.le_refl _) (by simp) ?_; (case hd => rfl); (case hg => rfl); (case hr => first | (go_simp; done) | (go_simp; rfl)); (case hp => exact (Reps.none _ _))
     intro v294 w21 ho22 hb hg_ hnew_
     clear hg_ hnew_
     (first | rw [← Ny293.out] at ho22 | (simp only [Int.reduceToNat] at ho22; rw [← Ny293.out] at ho22))
     have n0_ := Aside0.mk (Kd.R_lower ho22 (below_size (by first | exact HB.out | exact pw_below_drewN HB.out _)))
     have n1_ := Aside0.mk (blk_below (by exact BK289.out) hb)
     have n2_ := Aside0.mk (below_step (by first | exact HB.out | exact pw_below_drewN HB.out _) hb)
     clear BK289
     clear HB
     have HO295 := n0_
     have BK289 := n1_
     have HB := n2_
     clear n0_ n1_ n2_
     clear hb ho22
     refine hK.out _ _ ⟨(blk_cell BK289.out 0).trans rfl, (blk_cell BK289.out 1).trans rfl, (blk_cell BK289.out 2).trans rfl⟩ (fun hHeld => ?_)
     clear hK K
     refine norm_ (a' := ?_) ?_ ?_
     rotate_left
     ·show Act.put _ (some 24) _ = _
      simp only [Act.put, List.setIfInBounds_toArray, List.set_cons_zero, List.set_cons_succ, i64_w, i32_w]
      rfl
     refine one_ (i := 3) (N := some 26) (bzz 11 31) rfl rfl (one_of HT_.out (by kernel_rfl)) (by decide) (fun K hK => ?_)
     refine Kd.R_append_rows_step k27 (w0 := w) w.heap.size (by rfl) (.tmp 24) (.tmp 25) 37 27 (.agg #[(.int .i64 0), (.int .i64 0), (.int .i64 0), (.int .i64 0), (.int .i64 0), (.int .i64 0), (.int .i64 0)]) 56 rfl Try.underlying37 info27 rfl (by decide) (by omega) v294 y293 l1 _ _ _ (fun _ => True) (fun _ => False) rfl rfl ?aO ?aR (fun _ _ h => h) (fun _ h => h.elim) ?aF ?aB ?aS ?aL ?_
     (case aR => repeat (first | exact (Kd.C_below HR1.out HB.out) | (with_reducible refine Kd.C_alloc ?_ _) | (with_reducible refine Kd.C_drewN ?_ _) | (with_reducible refine Kd.C_drew ?_)))
     (case aB => exact (by repeat (first | (with_reducible first | exact HB.out | apply below_alloc | apply pw_below_drewN | apply below_drew1 | refine below_set ?_ GE289.out) | exact HB.out)))
     (case aF => exact (fun _ _ => trivial))
     (case aO => exact (by (with_reducible repeat (first | apply Kd.R_alloc | apply Kd.R_drewN | apply Kd.R_drew)); exact HO295.out))
     (case aS => exact (below_size (by first | exact HB.out | exact pw_below_drewN HB.out _)))
     (case aL => have := LMc16.out; omega)
     intro v297 w23 ho hb hg hat
     rw [← Ny296.out] at ho
     have n0_ := Aside0.mk (blk_grown (g := gb289) (o := .cells #[.int .i64 a0_0, .int .i64 a0_1, .int .i64 a0_2] 23 (0, 0)) (by (with_reducible repeat (first | refine blk_drewN ?_ _ | refine blk_drew ?_ | refine blk_alloc ?_ _)); exact BK289.out) hg (Kd.R_ne HO295.out BK289.out (by decide)))
     have n1_ := Aside0.mk (hb)
     have n2_ := Aside0.mk (ho)
     clear BK289
     clear HB
     clear HO295
     have BK289 := n0_
     have HB := n1_
     have HO298 := n2_
     clear n0_ n1_ n2_
     clear ho hb hg hat
     obtain ⟨Ao24, co24, eo24⟩ := Kd.R_slice HO298.out
     (first | subst eo24 | (injection eo24 with f1_ f2_ f3_; have f4_ := f1_.symm; have f5_ := f3_.symm; clear f1_ f2_ f3_; subst f4_; subst f5_))
     refine hK.out _ _ ⟨(blk_cell BK289.out 0).trans rfl, (blk_cell BK289.out 1).trans rfl, (blk_cell BK289.out 2).trans rfl⟩ (fun hHeld => ?_)
     clear hK K
     refine norm_ (a' := ?_) ?_ ?_
     rotate_left
     ·show Act.put _ (some 26) _ = _
      simp only [Act.put, List.setIfInBounds_toArray, List.set_cons_zero, List.set_cons_succ, i64_w, i32_w]
      rfl
     refine one_ (i := 5) (N := some 28) (bzz 11 63) rfl rfl (one_of HT_.out (by kernel_rfl)) (by decide) (fun K hK => ?_)
     refine goes_ Try.func27 (by kernel_rfl) rfl #[.agg #[.int .i64 a0_0, .int .i64 a0_1, .int .i64 a0_2], .slice Ao24 y296.length co24, .int .i64 a2] (by rfl) rfl rfl (by (try simp only [List.map_toArray, List.map_cons, List.map_nil]); first | done | rfl | (simp only [List.length_drop, List.length_take]; rfl)) ?_
     with_reducible refine (interpolate_Motions.calls kj3 a0_0 a0_1 a0_2 _ _ y296 a2 t299 t302 _ ?side1 ?side2 A17.out).mono ?_
     (case side1 => repeat (first | exact (Kd.R_reads' HO298.out).2.2 | (with_reducible refine Kd.C_alloc ?_ _) | (with_reducible refine Kd.C_drewN ?_ _) | (with_reducible refine Kd.C_drew ?_)))
     (case side2 => exact (Kd.R_reads' HO298.out).2.1)
     rintro e w25 ⟨v300, rfl, ho0, hb⟩
     refine ⟨_, rfl, ?_⟩
     have n0_ := Aside0.mk (Kd.R_below (by first | exact HO298.out | exact Kd.R_drewN HO298.out _) hb)
     have n1_ := Aside0.mk (Kd.R_lower ho0 (below_size (by first | exact HB.out | exact pw_below_drewN HB.out _)))
     have n2_ := Aside0.mk (blk_below (by exact BK289.out) hb)
     have n3_ := Aside0.mk (below_step (by first | exact HB.out | exact pw_below_drewN HB.out _) hb)
     clear HO298
     clear BK289
     clear HB
     have HO298 := n0_
     have HO301 := n1_
     have BK289 := n2_
     have HB := n3_
     clear n0_ n1_ n2_ n3_
     (try clear hb)
     (try clear hb2)
     (try clear hk)
     (try clear hi)
     (try clear ho0)
     refine hK.out _ _ ⟨(blk_cell BK289.out 0).trans rfl, (blk_cell BK289.out 1).trans rfl, (blk_cell BK289.out 2).trans rfl⟩ (fun hHeld => ?_)
     clear hK K
     refine norm_ (a' := ?_) ?_ ?_
     rotate_left
     ·show Act.put _ (some 28) _ = _
      simp only [Act.put, List.setIfInBounds_toArray, List.set_cons_zero, List.set_cons_succ, i64_w, i32_w]
      rfl
     refine pu 6 22 (bzz 11 127) (any_of HT_.out (by kernel_rfl)) ?_
     refine pu 7 29 (bzz 11 255) (any_of HT_.out (by kernel_rfl)) ?_
     refine pu 8 30 (bzz 11 511) (any_of HT_.out (by kernel_rfl)) ?_
     refine pu 9 7 (bzz 11 1023) (any_of HT_.out (by kernel_rfl)) ?_
     refine pu 10 8 (bzz 11 2047) (any_of HT_.out (by kernel_rfl)) ?_
     refine done_ (done_of HT_.out (by kernel_rfl)) ?_
     obtain ⟨hcz26_0, hcz26_1, hcz26_2⟩ := cells3 BK289.out
     have hfz26_0 := blk_frozen BK289.out 0
     have hfz26_1 := blk_frozen BK289.out 1
     have hfz26_2 := blk_frozen BK289.out 2
     go_upto_region 5 with (first | ((with_reducible refine gate_callee (f := 28) rfl ?_); refine goesL_ (some 35) rfl rfl Try.func28 (by kernel_rfl) rfl #[.agg #[.int .i64 a0_0, .int .i64 a0_1, .int .i64 a0_2], .slice A1 l1.length c1, .int .i64 a2] rfl (by (try simp only [List.map_toArray, List.map_cons, List.map_nil]); first | done | rfl | (simp only [List.length_drop, List.length_take]; rfl)) ?_; (with_reducible refine (swarfref33_Motions.calls kj3 a0_0 a0_1 a0_2 _ _ l1 a2 t303 t306 _ ?side1 ?side2 A18.out).mono ?_); (case side1 => repeat (first | exact (Kd.C_below HR1.out HB.out) | (with_reducible refine Kd.C_alloc ?_ _) | (with_reducible refine Kd.C_drewN ?_ _) | (with_reducible refine Kd.C_drew ?_))); (case side2 => exact HC1.out); rintro e w27 ⟨v304, rfl, ho0, hb⟩; refine ⟨_, rfl, ?_⟩; have n0_ := Aside0.mk (Kd.R_below (by first | exact HO298.out | exact Kd.R_drewN HO298.out _) hb); have n1_ := Aside0.mk (Kd.R_elder' (by (with_reducible repeat (first | apply Kd.R_alloc | apply Kd.R_drewN | apply Kd.R_drew)); exact HO301.out) (Kd.R_base ho0) hb); have n2_ := Aside0.mk (Kd.R_lower (Kd.R_new' ho0 (Kd.R_lt (by (with_reducible repeat (first | apply Kd.R_alloc | apply Kd.R_drewN | apply Kd.R_drew)); exact HO301.out))) (below_size (by first | exact HB.out | exact pw_below_drewN HB.out _))); have n3_ := Aside0.mk (blk_below (by exact BK289.out) hb); have n4_ := Aside0.mk (below_step (by first | exact HB.out | exact pw_below_drewN HB.out _) hb); clear HO298; clear HO301; clear BK289; clear HB; have HO298 := n0_; have HO301 := n1_; have HO305 := n2_; have BK289 := n3_; have HB := n4_; clear n0_ n1_ n2_ n3_ n4_; (try clear hb); (try clear hb2); (try clear hk); (try clear hi); (try clear ho0)))
     (try simp only [Act.put, List.setIfInBounds_toArray, List.set_cons_zero, List.set_cons_succ])
     go_cut [47] (fun v47 wc => ∃ (kq : Nat) (x47_18 : Bool), v47 = .bool x47_18 ∧ Aside0 (swarflaw33_InterpolateMotions.j1 kq l1 t299 t302 t303 x47_18 a0_0 a0_1 a0_2 = some r) ∧ Aside0 (kq ≤ kj3) ∧ Aside0 (Kd.R k51 51 wc w.heap.size (fun k_ => some k_ ≠ (v304 : Value).ownBlock) v300 t299) ∧ Aside0 (Kd.R k51 51 wc w.heap.size (fun k_ => some k_ ≠ (v300 : Value).ownBlock) v304 t303) ∧ Aside0 (wc.heap[gb289]? = some (.cells #[.int .i64 a0_0, .int .i64 a0_1, .int .i64 a0_2] 23 (0, 0))) ∧ Aside0 (Below w.heap.size w wc))
     case first =>
      have H := HC19.out
      clear HC19
      by_cases c28 : t302 = t306
      ·rw [if_pos c28] at H
       have c28b0 : (t302 == t306) = true := beq_iff_eq.mpr c28
       have c28b1 : (t302 != t306) = false := bne_eq_false_iff_eq.mpr c28
       clear c28
       (first | rw [c28b0] | (simp only [i64_w, i32_w]; rw [c28b0]) | skip)
       have H' := Aside0.mk H
       clear H
       obtain ⟨Ao29, co29, eo29⟩ := Kd.R_slice HO301.out
       subst eo29
       obtain ⟨Ao30, co30, eo30⟩ := Kd.R_slice HO305.out
       subst eo30
       go_wp2
       go_meet
       case rel => exact ⟨_, (((t299.length : Int) != (t303.length : Int))), (by first | rfl | (simp; done) | (simp [*]; done)), H', ⟨by have := HJ3.out; first | omega | exact Nat.le_refl _⟩, ⟨by (with_reducible repeat (first | apply Kd.R_alloc | apply Kd.R_drewN | apply Kd.R_drew)); exact Kd.R_mono HO301.out (fun _ hk => hk.2)⟩, ⟨by (with_reducible repeat (first | apply Kd.R_alloc | apply Kd.R_drewN | apply Kd.R_drew)); exact Kd.R_mono HO305.out (fun _ hk => hk.2)⟩, ⟨by (with_reducible repeat (first | refine blk_drewN ?_ _ | refine blk_drew ?_ | refine blk_alloc ?_ _)); exact BK289.out⟩, ⟨by repeat (first | (with_reducible first | exact HB.out | apply below_alloc | apply pw_below_drewN | apply below_drew1 | refine below_set ?_ GE289.out) | exact HB.out)⟩⟩
      ·rw [if_neg c28] at H
       have c28b0 : (t302 == t306) = false := beq_eq_false_iff_ne.mpr c28
       have c28b1 : (t302 != t306) = true := bne_iff_ne.mpr c28
       (first | rw [c28b0] | (simp only [i64_w, i32_w]; rw [c28b0]) | skip)
       have H' := Aside0.mk H
       clear H
       go_wp2
       go_meet
       case rel => exact ⟨_, (true), (by first | rfl | (simp; done) | (simp [*]; done)), H', ⟨by have := HJ3.out; first | omega | exact Nat.le_refl _⟩, ⟨by (with_reducible repeat (first | apply Kd.R_alloc | apply Kd.R_drewN | apply Kd.R_drew)); exact Kd.R_mono HO301.out (fun _ hk => hk.2)⟩, ⟨by (with_reducible repeat (first | apply Kd.R_alloc | apply Kd.R_drewN | apply Kd.R_drew)); exact Kd.R_mono HO305.out (fun _ hk => hk.2)⟩, ⟨by (with_reducible repeat (first | refine blk_drewN ?_ _ | refine blk_drew ?_ | refine blk_alloc ?_ _)); exact BK289.out⟩, ⟨by repeat (first | (with_reducible first | exact HB.out | apply below_alloc | apply pw_below_drewN | apply below_drew1 | refine below_set ?_ GE289.out) | exact HB.out)⟩⟩
     case rest =>
      clear HC19
      try clear c1
      try clear c2
      try clear p2
      try clear c7
      try clear c10
      try clear c11
      try clear c13
      try clear c16
      try clear c27
      try clear c28
      try clear c28b0
      try clear c28b1
      try clear hcz26_0
      try clear hcz26_1
      try clear hcz26_2
      try clear hfz26_0
      try clear hfz26_1
      try clear hfz26_2
      try clear p2
      obtain ⟨kq, x47_18, rfl, HA, HJ18, HO_7, HO_9, BK289, HB⟩ := hcut
      cases kq with
      | zero => exact absurd HA.out (by simp [swarflaw33_InterpolateMotions.j1])
      | succ kj18 =>
       have H := HA.out
       clear HA
       simp only [swarflaw33_InterpolateMotions.j1] at H
       by_cases c31 : x47_18 = true
       ·subst c31
        have H1 : (some false) = some r := by rw [if_pos rfl] at H; exact H
        clear H
        have H := H1
        clear H1
        obtain rfl := Option.some.inj H
        go_wp2
        go_ret
        exact ⟨by first | rfl | (simp [errW_none, errW_some] <;> rfl) | (simp [*, errW_none, errW_some] <;> rfl), by repeat (first | (with_reducible first | exact HB.out | apply below_alloc | apply pw_below_drewN | apply below_drew1 | refine below_set ?_ GE289.out) | exact HB.out)⟩
       ·replace c31 := Bool.eq_false_iff.mpr c31
        subst c31
        have H1 : (swarflaw33_InterpolateMotions.l0 kj18 l1 t299 t302 t303 (t299.length : Int) 0 a0_0 a0_1 a0_2 a0_0 a0_1 a0_2) = some r := by rw [if_neg (show ¬ (false = true) by decide)] at H; exact H
        clear H
        have H := H1
        clear H1
        have H' := Aside0.mk H
        clear H
        obtain ⟨hcz32_0, hcz32_1, hcz32_2⟩ := cells3 BK289.out
        have hfz32_0 := blk_frozen BK289.out 0
        have hfz32_1 := blk_frozen BK289.out 1
        have hfz32_2 := blk_frozen BK289.out 2
        go_wp2_with (first | ((with_reducible refine gate_dst (N := 11) rfl ?_); (try (refine gate_guard (by rfl) ?_; dsimp only)); refine box_event ?hg (N := 11) ?hd (cs := #[.int .i64 0, .int .i64 0, .int .i64 0]) (t := 23) ?hr ?_; (case hd => rfl); (case hg => rfl); (case hr => first | (go_simp; done) | (go_simp; rfl)); intro gb307 hg w33 hbox hb; have n0_ := Aside0.mk (Kd.R_below (by first | exact HO_7.out | exact Kd.R_drewN HO_7.out _) hb); have n1_ := Aside0.mk (Kd.R_below (by first | exact HO_9.out | exact Kd.R_drewN HO_9.out _) hb); have n2_ := Aside0.mk (blk_below (by exact BK289.out) hb); have n3_ := Aside0.mk (below_step (by first | exact HB.out | exact pw_below_drewN HB.out _) hb); have n4_ := Aside0.mk (hbox); have n5_ := Aside0.mk ((by rw [hg]; exact (below_size (by first | exact HB.out | exact pw_below_drewN HB.out _)) : w.heap.size ≤ gb307)); have n6_ := Aside0.mk ((by rw [hg]; exact (below_size (by first | exact HB.out | exact pw_below_drewN HB.out _)) : w.heap.size ≤ gb307)); have n7_ := Aside0.mk ((by rw [hg]; exact Nat.ne_of_lt (blk_lt (g := gb289) (o := .cells #[.int .i64 a0_0, .int .i64 a0_1, .int .i64 a0_2] 23 (0, 0)) (by (with_reducible repeat (first | refine blk_drewN ?_ _ | refine blk_drew ?_ | refine blk_alloc ?_ _)); exact BK289.out)) : gb289 ≠ gb307)); have n8_ := Aside0.mk ((by rw [hg]; exact Nat.ne_of_gt (blk_lt (g := gb289) (o := .cells #[.int .i64 a0_0, .int .i64 a0_1, .int .i64 a0_2] 23 (0, 0)) (by (with_reducible repeat (first | refine blk_drewN ?_ _ | refine blk_drew ?_ | refine blk_alloc ?_ _)); exact BK289.out)) : gb307 ≠ gb289)); clear HO_7; clear HO_9; clear BK289; clear HB; have HO_7 := n0_; have HO_9 := n1_; have BK289 := n2_; have HB := n3_; have BK307 := n4_; have GW307 := n5_; have GE307 := n6_; have NB289_307 := n7_; have NB307_289 := n8_; clear n0_ n1_ n2_ n3_ n4_ n5_ n6_ n7_ n8_; clear hb hbox hg; have hnb34 := NB307_289.out; have hnc34 := NB289_307.out; obtain ⟨hcz35_0, hcz35_1, hcz35_2⟩ := cells3 BK307.out; have hfz35_0 := blk_frozen BK307.out 0; have hfz35_1 := blk_frozen BK307.out 1; have hfz35_2 := blk_frozen BK307.out 2; obtain ⟨Ao36, co36, eo36⟩ := Kd.R_slice HO_7.out; subst eo36))
        go_loopg [51] kj18 (fun kq v51 w' => ∃ (x51_3 : Int) (x308000_3 : Int) (x308001_3 : Int) (x308002_3 : Int), v51 = .int .i64 x51_3 ∧ Aside0 (swarflaw33_InterpolateMotions.l0 kq l1 t299 t302 t303 (t299.length : Int) x51_3 a0_0 a0_1 a0_2 x308000_3 x308001_3 x308002_3 = some r) ∧ Aside0 (kq ≤ kj18) ∧ Aside0 (Kd.R k51 51 w' w.heap.size (fun k_ => some k_ ≠ (v304 : Value).ownBlock) (.slice Ao36 t299.length co36) t299) ∧ Aside0 (Kd.R k51 51 w' w.heap.size (fun k_ => some k_ ≠ ((.slice Ao36 t299.length co36) : Value).ownBlock) v304 t303) ∧ Aside0 (w'.heap[gb289]? = some (.cells #[.int .i64 a0_0, .int .i64 a0_1, .int .i64 a0_2] 23 (0, 0))) ∧ Aside0 (w'.heap[gb307]? = some (.cells #[.int .i64 x308000_3, .int .i64 x308001_3, .int .i64 x308002_3] 23 (0, 0))) ∧ Aside0 (Below w.heap.size w w'))
        case atStart => exact ⟨(0), (a0_0), (a0_1), (a0_2), (by first | rfl | (simp; done) | (simp [*]; done)), H', ⟨Nat.le_refl _⟩, ⟨by (with_reducible repeat (first | apply Kd.R_alloc | apply Kd.R_drewN | apply Kd.R_drew)); exact Kd.R_mono (Kd.R_far (p := ⟨gb307, 2, none⟩) (Kd.R_far (p := ⟨gb307, 1, none⟩) (Kd.R_far (p := ⟨gb307, 0, none⟩) (Kd.R_types HO_7.out BK307.out (by decide)) (fun _ hk => hk.2) (.int .i64 a0_0)) (fun _ hk => hk.2) (.int .i64 a0_1)) (fun _ hk => hk.2) (.int .i64 a0_2)) (fun _ hk => hk.1)⟩, ⟨by (with_reducible repeat (first | apply Kd.R_alloc | apply Kd.R_drewN | apply Kd.R_drew)); exact Kd.R_mono (Kd.R_far (p := ⟨gb307, 2, none⟩) (Kd.R_far (p := ⟨gb307, 1, none⟩) (Kd.R_far (p := ⟨gb307, 0, none⟩) (Kd.R_types HO_9.out BK307.out (by decide)) (fun _ hk => hk.2) (.int .i64 a0_0)) (fun _ hk => hk.2) (.int .i64 a0_1)) (fun _ hk => hk.2) (.int .i64 a0_2)) (fun _ hk => hk.1)⟩, ⟨by (with_reducible repeat (first | refine blk_drewN ?_ _ | refine blk_drew ?_ | refine blk_alloc ?_ _)); refine blk_far ?_ NB289_307.out _; (with_reducible repeat (first | refine blk_drewN ?_ _ | refine blk_drew ?_ | refine blk_alloc ?_ _)); refine blk_far ?_ NB289_307.out _; (with_reducible repeat (first | refine blk_drewN ?_ _ | refine blk_drew ?_ | refine blk_alloc ?_ _)); refine blk_far ?_ NB289_307.out _; (with_reducible repeat (first | refine blk_drewN ?_ _ | refine blk_drew ?_ | refine blk_alloc ?_ _)); exact BK289.out⟩, ⟨by (with_reducible repeat (first | refine blk_drewN ?_ _ | refine blk_drew ?_ | refine blk_alloc ?_ _)); refine blk_put (cs := #[.int .i64 a0_0, .int .i64 a0_1, .int .i64 0]) ?_ 2 _ rfl; (with_reducible repeat (first | refine blk_drewN ?_ _ | refine blk_drew ?_ | refine blk_alloc ?_ _)); refine blk_put (cs := #[.int .i64 a0_0, .int .i64 0, .int .i64 0]) ?_ 1 _ rfl; (with_reducible repeat (first | refine blk_drewN ?_ _ | refine blk_drew ?_ | refine blk_alloc ?_ _)); refine blk_put (cs := #[.int .i64 0, .int .i64 0, .int .i64 0]) ?_ 0 _ rfl; (with_reducible repeat (first | refine blk_drewN ?_ _ | refine blk_drew ?_ | refine blk_alloc ?_ _)); exact BK307.out⟩, ⟨by repeat (first | (with_reducible first | exact HB.out | apply below_alloc | apply pw_below_drewN | apply below_drew1 | refine below_set ?_ GE289.out | refine below_set ?_ GE307.out) | exact HB.out)⟩⟩
        case round =>
         clear H'
         try clear c1
         try clear c2
         try clear p2
         try clear c3
         try clear c7
         try clear c10
         try clear c11
         try clear c13
         try clear c16
         try clear c27
         try clear c28
         try clear c28b0
         try clear c28b1
         try clear c31
         try clear c34
         try clear hcz26_0
         try clear hcz26_1
         try clear hcz26_2
         try clear hcz32_0
         try clear hcz32_1
         try clear hcz32_2
         try clear hcz35_0
         try clear hcz35_1
         try clear hcz35_2
         try clear hfz26_0
         try clear hfz26_1
         try clear hfz26_2
         try clear hfz32_0
         try clear hfz32_1
         try clear hfz32_2
         try clear hfz35_0
         try clear hfz35_1
         try clear hfz35_2
         try clear p2
         obtain ⟨x51_3, x308000_3, x308001_3, x308002_3, rfl, HA, HK3, HO_7, HO_9, BK289, BK307, HB⟩ := hrel
         cases gk with
         | zero => exact absurd HA.out (by simp [swarflaw33_InterpolateMotions.l0])
         | succ k3 =>
          have H := HA.out
          clear HA
          simp only [swarflaw33_InterpolateMotions.l0] at H
          by_cases c37 : x51_3 < (t299.length : Int)
          ·rw [if_pos c37] at H
           have c37b0 : decide (x51_3 < (t299.length : Int)) = true := decide_eq_true c37
           clear c37
           by_cases c38 : 0 ≤ x51_3
           ·rw [if_pos c38] at H
            have c38b0 : decide (0 ≤ x51_3) = true := decide_eq_true c38
            clear c38
            by_cases c39 : x51_3 < (t299.length : Int)
            ·rw [if_pos c39] at H
             have c39b0 : decide (x51_3 < (t299.length : Int)) = true := decide_eq_true c39
             clear c39
             by_cases c40 : x51_3 < (t303.length : Int)
             ·rw [if_pos c40] at H
              have c40b0 : decide (x51_3 < (t303.length : Int)) = true := decide_eq_true c40
              clear c40
              by_cases c41 : ((!(((rd_T51 t299 x51_3).f0.f0) == ((rd_T51 t303 x51_3).f0.f0)) || (!(((rd_T51 t299 x51_3).f0.f1) == ((rd_T51 t303 x51_3).f0.f1)) || (!(((rd_T51 t299 x51_3).f0.f2) == ((rd_T51 t303 x51_3).f0.f2))))) || ((!(((rd_T51 t299 x51_3).f1.f0) == ((rd_T51 t303 x51_3).f1.f0)) || (!(((rd_T51 t299 x51_3).f1.f1) == ((rd_T51 t303 x51_3).f1.f1)) || (!(((rd_T51 t299 x51_3).f1.f2) == ((rd_T51 t303 x51_3).f1.f2))))) || (!(((rd_T51 t299 x51_3).f2) == ((rd_T51 t303 x51_3).f2)) || (!(((rd_T51 t299 x51_3).f3) == ((rd_T51 t303 x51_3).f3)) || (!(((rd_T51 t299 x51_3).f4) == ((rd_T51 t303 x51_3).f4))))))) = true
              ·rw [if_pos c41] at H
               have c41b0 : ((!(((rd_T51 t299 x51_3).f0.f0) == ((rd_T51 t303 x51_3).f0.f0)) || (!(((rd_T51 t299 x51_3).f0.f1) == ((rd_T51 t303 x51_3).f0.f1)) || (!(((rd_T51 t299 x51_3).f0.f2) == ((rd_T51 t303 x51_3).f0.f2))))) || ((!(((rd_T51 t299 x51_3).f1.f0) == ((rd_T51 t303 x51_3).f1.f0)) || (!(((rd_T51 t299 x51_3).f1.f1) == ((rd_T51 t303 x51_3).f1.f1)) || (!(((rd_T51 t299 x51_3).f1.f2) == ((rd_T51 t303 x51_3).f1.f2))))) || (!(((rd_T51 t299 x51_3).f2) == ((rd_T51 t303 x51_3).f2)) || (!(((rd_T51 t299 x51_3).f3) == ((rd_T51 t303 x51_3).f3)) || (!(((rd_T51 t299 x51_3).f4) == ((rd_T51 t303 x51_3).f4))))))) = true := c41
               clear c41
               obtain rfl := Option.some.inj H
               try go_wp2
               have n0_ := Aside0.mk (Kd.R_drew HO_7.out)
               have n1_ := Aside0.mk (Kd.R_drew HO_9.out)
               have n2_ := Aside0.mk (blk_drew BK289.out)
               have n3_ := Aside0.mk (blk_drew BK307.out)
               have n4_ := Aside0.mk (below_drew1 HB.out)
               clear HO_7
               clear HO_9
               clear BK289
               clear BK307
               clear HB
               have HO_7 := n0_
               have HO_9 := n1_
               have BK289 := n2_
               have BK307 := n3_
               have HB := n4_
               clear n0_ n1_ n2_ n3_ n4_
               have p308 : 0 ≤ (x51_3 : Int) := of_decide_eq_true (by first | (with_reducible assumption) | assumption)
               have q308 : x51_3 < (t299.length : Int) := of_decide_eq_true (by first | (with_reducible assumption) | assumption)
               obtain ⟨ad308, e308, hx308_0, hx308_1, hx308_2, hx308_3, hx308_4, hx308_5, hx308_6, hx308_7, hx308_8⟩ := at_T51 (Kd.R_reads' HO_7.out).2.2 x51_3 p308 q308
               cases e308
               replace p308 := eq_true p308
               replace q308 := eq_true q308
               obtain ⟨Ao43, co43, eo43⟩ := Kd.R_slice HO_9.out
               (first | subst eo43 | (injection eo43 with f1_ f2_ f3_; have f4_ := f1_.symm; have f5_ := f3_.symm; clear f1_ f2_ f3_; subst f4_; subst f5_))
               have p309 : 0 ≤ (x51_3 : Int) := of_decide_eq_true (by first | (with_reducible assumption) | assumption)
               have q309 : x51_3 < (t303.length : Int) := of_decide_eq_true (by first | (with_reducible assumption) | assumption)
               obtain ⟨ad309, e309, hx309_0, hx309_1, hx309_2, hx309_3, hx309_4, hx309_5, hx309_6, hx309_7, hx309_8⟩ := at_T51 (Kd.R_reads' HO_9.out).2.2 x51_3 p309 q309
               cases e309
               replace p309 := eq_true p309
               replace q309 := eq_true q309
               refine start_ (n := 31) (S := fun w' => w'.cell? (ad308.add ((x51_3).toNat * 9)) = some (.int .i64 ((rd_T51 t299 x51_3).f0.f0)) ∧ w'.cell? ⟨(ad308.add ((x51_3).toNat * 9)).block, (ad308.add ((x51_3).toNat * 9)).off + 1, none⟩ = some (.int .i64 ((rd_T51 t299 x51_3).f0.f1)) ∧ w'.cell? ⟨(ad308.add ((x51_3).toNat * 9)).block, (ad308.add ((x51_3).toNat * 9)).off + 2, none⟩ = some (.int .i64 ((rd_T51 t299 x51_3).f0.f2)) ∧ w'.cell? ⟨(ad308.add ((x51_3).toNat * 9)).block, (ad308.add ((x51_3).toNat * 9)).off + 3, none⟩ = some (.int .i64 ((rd_T51 t299 x51_3).f1.f0)) ∧ w'.cell? ⟨(ad308.add ((x51_3).toNat * 9)).block, (ad308.add ((x51_3).toNat * 9)).off + 4, none⟩ = some (.int .i64 ((rd_T51 t299 x51_3).f1.f1)) ∧ w'.cell? ⟨(ad308.add ((x51_3).toNat * 9)).block, (ad308.add ((x51_3).toNat * 9)).off + 5, none⟩ = some (.int .i64 ((rd_T51 t299 x51_3).f1.f2)) ∧ w'.cell? ⟨(ad308.add ((x51_3).toNat * 9)).block, (ad308.add ((x51_3).toNat * 9)).off + 6, none⟩ = some (.int .i64 ((rd_T51 t299 x51_3).f2)) ∧ w'.cell? ⟨(ad308.add ((x51_3).toNat * 9)).block, (ad308.add ((x51_3).toNat * 9)).off + 7, none⟩ = some (.int .i64 ((rd_T51 t299 x51_3).f3)) ∧ w'.cell? ⟨(ad308.add ((x51_3).toNat * 9)).block, (ad308.add ((x51_3).toNat * 9)).off + 8, none⟩ = some (.int .i64 ((rd_T51 t299 x51_3).f4)) ∧ w'.cell? (ad309.add ((x51_3).toNat * 9)) = some (.int .i64 ((rd_T51 t303 x51_3).f0.f0)) ∧ w'.cell? ⟨(ad309.add ((x51_3).toNat * 9)).block, (ad309.add ((x51_3).toNat * 9)).off + 1, none⟩ = some (.int .i64 ((rd_T51 t303 x51_3).f0.f1)) ∧ w'.cell? ⟨(ad309.add ((x51_3).toNat * 9)).block, (ad309.add ((x51_3).toNat * 9)).off + 2, none⟩ = some (.int .i64 ((rd_T51 t303 x51_3).f0.f2)) ∧ w'.cell? ⟨(ad309.add ((x51_3).toNat * 9)).block, (ad309.add ((x51_3).toNat * 9)).off + 3, none⟩ = some (.int .i64 ((rd_T51 t303 x51_3).f1.f0)) ∧ w'.cell? ⟨(ad309.add ((x51_3).toNat * 9)).block, (ad309.add ((x51_3).toNat * 9)).off + 4, none⟩ = some (.int .i64 ((rd_T51 t303 x51_3).f1.f1)) ∧ w'.cell? ⟨(ad309.add ((x51_3).toNat * 9)).block, (ad309.add ((x51_3).toNat * 9)).off + 5, none⟩ = some (.int .i64 ((rd_T51 t303 x51_3).f1.f2)) ∧ w'.cell? ⟨(ad309.add ((x51_3).toNat * 9)).block, (ad309.add ((x51_3).toNat * 9)).off + 6, none⟩ = some (.int .i64 ((rd_T51 t303 x51_3).f2)) ∧ w'.cell? ⟨(ad309.add ((x51_3).toNat * 9)).block, (ad309.add ((x51_3).toNat * 9)).off + 7, none⟩ = some (.int .i64 ((rd_T51 t303 x51_3).f3)) ∧ w'.cell? ⟨(ad309.add ((x51_3).toNat * 9)).block, (ad309.add ((x51_3).toNat * 9)).off + 8, none⟩ = some (.int .i64 ((rd_T51 t303 x51_3).f4))) (ds := []) #[false, false, false, false, false, false, false, false, false, false, false, false, false, false, false, false, false, false, false, false, false, false, false, false, false, false, false, false, false, false, false] (by kernel_rfl) rfl rfl ⟨hx308_0, hx308_1, hx308_2, hx308_3, hx308_4, hx308_5, hx308_6, hx308_7, hx308_8, hx309_0, hx309_1, hx309_2, hx309_3, hx309_4, hx309_5, hx309_6, hx309_7, hx309_8⟩ (fun hHeld => ?_); refine with_tabW swarflaw33_InterpolateMotions.tab11 swarflaw33_InterpolateMotions.bits11 (fun HT_ HW_ => ?_)
               generalize wr.drew = w42 at HO_7 HO_9 BK289 BK307 HB hx308_0 hx308_1 hx308_2 hx308_3 hx308_4 hx308_5 hx308_6 hx308_7 hx308_8 hx309_0 hx309_1 hx309_2 hx309_3 hx309_4 hx309_5 hx309_6 hx309_7 hx309_8 hHeld ⊢
               refine pu 0 54 (bzz 31 1) (any_of HT_.out (by kernel_rfl)) ?_
               refine pu 1 55 (bzz 31 3) (any_of HT_.out (by kernel_rfl)) ?_
               refine pu 2 56 (bzz 31 7) (any_of HT_.out (by kernel_rfl)) ?_
               refine pu 4 58 (bzz 31 23) (any_of HT_.out (by kernel_rfl)) ?_
               refine pu 5 59 (bzz 31 55) (any_of HT_.out (by kernel_rfl)) ?_
               refine pu 6 60 (bzz 31 119) (any_of HT_.out (by kernel_rfl)) ?_
               refine ta 3 57 (bzz 31 127) (take_ofW HT_.out HW_.out (by kernel_rfl)) hHeld ?_
               refine ta 7 61 (bzz 31 255) (take_ofW HT_.out HW_.out (by kernel_rfl)) hHeld ?_
               refine pu 8 62 (bzz 31 511) (any_of HT_.out (by kernel_rfl)) ?_
               refine pu 9 63 (bzz 31 1023) (any_of HT_.out (by kernel_rfl)) ?_
               refine po 10 64 (bzz 31 2047) (any_of HT_.out (by kernel_rfl)) ?_
               refine po 11 65 (bzz 31 4095) (any_of HT_.out (by kernel_rfl)) ?_
               refine po 12 66 (bzz 31 8191) (any_of HT_.out (by kernel_rfl)) ?_
               refine po 13 67 (bzz 31 16383) (any_of HT_.out (by kernel_rfl)) ?_
               refine po 14 68 (bzz 31 32767) (any_of HT_.out (by kernel_rfl)) ?_
               refine po 15 69 (bzz 31 65535) (any_of HT_.out (by kernel_rfl)) ?_
               refine po 16 70 (bzz 31 131071) (any_of HT_.out (by kernel_rfl)) ?_
               refine pu 17 71 (bzz 31 262143) (any_of HT_.out (by kernel_rfl)) ?_
               refine pu 18 72 (bzz 31 524287) (any_of HT_.out (by kernel_rfl)) ?_
               refine po 19 73 (bzz 31 1048575) (any_of HT_.out (by kernel_rfl)) ?_
               refine po 20 74 (bzz 31 2097151) (any_of HT_.out (by kernel_rfl)) ?_
               refine po 21 75 (bzz 31 4194303) (any_of HT_.out (by kernel_rfl)) ?_
               refine po 22 76 (bzz 31 8388607) (any_of HT_.out (by kernel_rfl)) ?_
               refine po 23 77 (bzz 31 16777215) (any_of HT_.out (by kernel_rfl)) ?_
               refine po 24 78 (bzz 31 33554431) (any_of HT_.out (by kernel_rfl)) ?_
               refine po 25 79 (bzz 31 67108863) (any_of HT_.out (by kernel_rfl)) ?_
               refine po 26 80 (bzz 31 134217727) (any_of HT_.out (by kernel_rfl)) ?_
               refine po 27 81 (bzz 31 268435455) (any_of HT_.out (by kernel_rfl)) ?_
               refine po 28 82 (bzz 31 536870911) (any_of HT_.out (by kernel_rfl)) ?_
               refine po 29 83 (bzz 31 1073741823) (any_of HT_.out (by kernel_rfl)) ?_
               refine pu 30 84 (bzz 31 2147483647) (any_of HT_.out (by kernel_rfl)) ?_
               refine done_ (done_of HT_.out (by kernel_rfl)) ?_
               try go_wp2
               go_ret
               exact ⟨by first | rfl | (simp [errW_none, errW_some] <;> rfl) | (simp [*, errW_none, errW_some] <;> rfl), by repeat (first | (with_reducible first | exact HB.out | apply below_alloc | apply pw_below_drewN | apply below_drew1 | refine below_set ?_ GE289.out | refine below_set ?_ GE307.out) | exact HB.out)⟩
              ·rw [if_neg c41] at H
               have c41b0 : ((!(((rd_T51 t299 x51_3).f0.f0) == ((rd_T51 t303 x51_3).f0.f0)) || (!(((rd_T51 t299 x51_3).f0.f1) == ((rd_T51 t303 x51_3).f0.f1)) || (!(((rd_T51 t299 x51_3).f0.f2) == ((rd_T51 t303 x51_3).f0.f2))))) || ((!(((rd_T51 t299 x51_3).f1.f0) == ((rd_T51 t303 x51_3).f1.f0)) || (!(((rd_T51 t299 x51_3).f1.f1) == ((rd_T51 t303 x51_3).f1.f1)) || (!(((rd_T51 t299 x51_3).f1.f2) == ((rd_T51 t303 x51_3).f1.f2))))) || (!(((rd_T51 t299 x51_3).f2) == ((rd_T51 t303 x51_3).f2)) || (!(((rd_T51 t299 x51_3).f3) == ((rd_T51 t303 x51_3).f3)) || (!(((rd_T51 t299 x51_3).f4) == ((rd_T51 t303 x51_3).f4))))))) = false := by simpa using c41
               clear c41
               by_cases c44 : (!(((rd_T51 t299 x51_3).f0.f0) == x308000_3) || (!(((rd_T51 t299 x51_3).f0.f1) == x308001_3) || (!(((rd_T51 t299 x51_3).f0.f2) == x308002_3)))) = true
               ·rw [if_pos c44] at H
                have c44b0 : (!(((rd_T51 t299 x51_3).f0.f0) == x308000_3) || (!(((rd_T51 t299 x51_3).f0.f1) == x308001_3) || (!(((rd_T51 t299 x51_3).f0.f2) == x308002_3)))) = true := c44
                clear c44
                obtain rfl := Option.some.inj H
                try go_wp2
                have n0_ := Aside0.mk (Kd.R_drew HO_7.out)
                have n1_ := Aside0.mk (Kd.R_drew HO_9.out)
                have n2_ := Aside0.mk (blk_drew BK289.out)
                have n3_ := Aside0.mk (blk_drew BK307.out)
                have n4_ := Aside0.mk (below_drew1 HB.out)
                clear HO_7
                clear HO_9
                clear BK289
                clear BK307
                clear HB
                have HO_7 := n0_
                have HO_9 := n1_
                have BK289 := n2_
                have BK307 := n3_
                have HB := n4_
                clear n0_ n1_ n2_ n3_ n4_
                have p308 : 0 ≤ (x51_3 : Int) := of_decide_eq_true (by first | (with_reducible assumption) | assumption)
                have q308 : x51_3 < (t299.length : Int) := of_decide_eq_true (by first | (with_reducible assumption) | assumption)
                obtain ⟨ad308, e308, hx308_0, hx308_1, hx308_2, hx308_3, hx308_4, hx308_5, hx308_6, hx308_7, hx308_8⟩ := at_T51 (Kd.R_reads' HO_7.out).2.2 x51_3 p308 q308
                cases e308
                replace p308 := eq_true p308
                replace q308 := eq_true q308
                obtain ⟨Ao46, co46, eo46⟩ := Kd.R_slice HO_9.out
                (first | subst eo46 | (injection eo46 with f1_ f2_ f3_; have f4_ := f1_.symm; have f5_ := f3_.symm; clear f1_ f2_ f3_; subst f4_; subst f5_))
                have p309 : 0 ≤ (x51_3 : Int) := of_decide_eq_true (by first | (with_reducible assumption) | assumption)
                have q309 : x51_3 < (t303.length : Int) := of_decide_eq_true (by first | (with_reducible assumption) | assumption)
                obtain ⟨ad309, e309, hx309_0, hx309_1, hx309_2, hx309_3, hx309_4, hx309_5, hx309_6, hx309_7, hx309_8⟩ := at_T51 (Kd.R_reads' HO_9.out).2.2 x51_3 p309 q309
                cases e309
                replace p309 := eq_true p309
                replace q309 := eq_true q309
                have p310 : 0 ≤ (x51_3 : Int) := of_decide_eq_true (by first | (with_reducible assumption) | assumption)
                have q310 : x51_3 < (t299.length : Int) := of_decide_eq_true (by first | (with_reducible assumption) | assumption)
                obtain ⟨ad310, e310, hx310_0, hx310_1, hx310_2, hx310_3, hx310_4, hx310_5, hx310_6, hx310_7, hx310_8⟩ := at_T51 (Kd.R_reads' HO_7.out).2.2 x51_3 p310 q310
                obtain rfl : ad308 = ad310 := (by injection e310)
                replace p310 := eq_true p310
                replace q310 := eq_true q310
                refine start_ (n := 31) (S := fun w' => w'.cell? ⟨gb307, 0, none⟩ = some (.int .i64 x308000_3) ∧ w'.cell? ⟨gb307, 1, none⟩ = some (.int .i64 x308001_3) ∧ w'.cell? ⟨gb307, 2, none⟩ = some (.int .i64 x308002_3) ∧ w'.cell? (ad308.add ((x51_3).toNat * 9)) = some (.int .i64 ((rd_T51 t299 x51_3).f0.f0)) ∧ w'.cell? ⟨(ad308.add ((x51_3).toNat * 9)).block, (ad308.add ((x51_3).toNat * 9)).off + 1, none⟩ = some (.int .i64 ((rd_T51 t299 x51_3).f0.f1)) ∧ w'.cell? ⟨(ad308.add ((x51_3).toNat * 9)).block, (ad308.add ((x51_3).toNat * 9)).off + 2, none⟩ = some (.int .i64 ((rd_T51 t299 x51_3).f0.f2)) ∧ w'.cell? ⟨(ad308.add ((x51_3).toNat * 9)).block, (ad308.add ((x51_3).toNat * 9)).off + 3, none⟩ = some (.int .i64 ((rd_T51 t299 x51_3).f1.f0)) ∧ w'.cell? ⟨(ad308.add ((x51_3).toNat * 9)).block, (ad308.add ((x51_3).toNat * 9)).off + 4, none⟩ = some (.int .i64 ((rd_T51 t299 x51_3).f1.f1)) ∧ w'.cell? ⟨(ad308.add ((x51_3).toNat * 9)).block, (ad308.add ((x51_3).toNat * 9)).off + 5, none⟩ = some (.int .i64 ((rd_T51 t299 x51_3).f1.f2)) ∧ w'.cell? ⟨(ad308.add ((x51_3).toNat * 9)).block, (ad308.add ((x51_3).toNat * 9)).off + 6, none⟩ = some (.int .i64 ((rd_T51 t299 x51_3).f2)) ∧ w'.cell? ⟨(ad308.add ((x51_3).toNat * 9)).block, (ad308.add ((x51_3).toNat * 9)).off + 7, none⟩ = some (.int .i64 ((rd_T51 t299 x51_3).f3)) ∧ w'.cell? ⟨(ad308.add ((x51_3).toNat * 9)).block, (ad308.add ((x51_3).toNat * 9)).off + 8, none⟩ = some (.int .i64 ((rd_T51 t299 x51_3).f4)) ∧ w'.cell? (ad309.add ((x51_3).toNat * 9)) = some (.int .i64 ((rd_T51 t303 x51_3).f0.f0)) ∧ w'.cell? ⟨(ad309.add ((x51_3).toNat * 9)).block, (ad309.add ((x51_3).toNat * 9)).off + 1, none⟩ = some (.int .i64 ((rd_T51 t303 x51_3).f0.f1)) ∧ w'.cell? ⟨(ad309.add ((x51_3).toNat * 9)).block, (ad309.add ((x51_3).toNat * 9)).off + 2, none⟩ = some (.int .i64 ((rd_T51 t303 x51_3).f0.f2)) ∧ w'.cell? ⟨(ad309.add ((x51_3).toNat * 9)).block, (ad309.add ((x51_3).toNat * 9)).off + 3, none⟩ = some (.int .i64 ((rd_T51 t303 x51_3).f1.f0)) ∧ w'.cell? ⟨(ad309.add ((x51_3).toNat * 9)).block, (ad309.add ((x51_3).toNat * 9)).off + 4, none⟩ = some (.int .i64 ((rd_T51 t303 x51_3).f1.f1)) ∧ w'.cell? ⟨(ad309.add ((x51_3).toNat * 9)).block, (ad309.add ((x51_3).toNat * 9)).off + 5, none⟩ = some (.int .i64 ((rd_T51 t303 x51_3).f1.f2)) ∧ w'.cell? ⟨(ad309.add ((x51_3).toNat * 9)).block, (ad309.add ((x51_3).toNat * 9)).off + 6, none⟩ = some (.int .i64 ((rd_T51 t303 x51_3).f2)) ∧ w'.cell? ⟨(ad309.add ((x51_3).toNat * 9)).block, (ad309.add ((x51_3).toNat * 9)).off + 7, none⟩ = some (.int .i64 ((rd_T51 t303 x51_3).f3)) ∧ w'.cell? ⟨(ad309.add ((x51_3).toNat * 9)).block, (ad309.add ((x51_3).toNat * 9)).off + 8, none⟩ = some (.int .i64 ((rd_T51 t303 x51_3).f4)) ∧ w'.cell? (ad308.add ((x51_3).toNat * 9)) = some (.int .i64 ((rd_T51 t299 x51_3).f0.f0)) ∧ w'.cell? ⟨(ad308.add ((x51_3).toNat * 9)).block, (ad308.add ((x51_3).toNat * 9)).off + 1, none⟩ = some (.int .i64 ((rd_T51 t299 x51_3).f0.f1)) ∧ w'.cell? ⟨(ad308.add ((x51_3).toNat * 9)).block, (ad308.add ((x51_3).toNat * 9)).off + 2, none⟩ = some (.int .i64 ((rd_T51 t299 x51_3).f0.f2)) ∧ w'.cell? ⟨(ad308.add ((x51_3).toNat * 9)).block, (ad308.add ((x51_3).toNat * 9)).off + 3, none⟩ = some (.int .i64 ((rd_T51 t299 x51_3).f1.f0)) ∧ w'.cell? ⟨(ad308.add ((x51_3).toNat * 9)).block, (ad308.add ((x51_3).toNat * 9)).off + 4, none⟩ = some (.int .i64 ((rd_T51 t299 x51_3).f1.f1)) ∧ w'.cell? ⟨(ad308.add ((x51_3).toNat * 9)).block, (ad308.add ((x51_3).toNat * 9)).off + 5, none⟩ = some (.int .i64 ((rd_T51 t299 x51_3).f1.f2)) ∧ w'.cell? ⟨(ad308.add ((x51_3).toNat * 9)).block, (ad308.add ((x51_3).toNat * 9)).off + 6, none⟩ = some (.int .i64 ((rd_T51 t299 x51_3).f2)) ∧ w'.cell? ⟨(ad308.add ((x51_3).toNat * 9)).block, (ad308.add ((x51_3).toNat * 9)).off + 7, none⟩ = some (.int .i64 ((rd_T51 t299 x51_3).f3)) ∧ w'.cell? ⟨(ad308.add ((x51_3).toNat * 9)).block, (ad308.add ((x51_3).toNat * 9)).off + 8, none⟩ = some (.int .i64 ((rd_T51 t299 x51_3).f4))) (ds := []) #[false, false, false, false, false, false, false, false, false, false, false, false, false, false, false, false, false, false, false, false, false, false, false, false, false, false, false, false, false, false, false] (by kernel_rfl) rfl rfl ⟨(blk_cell BK307.out 0).trans rfl, (blk_cell BK307.out 1).trans rfl, (blk_cell BK307.out 2).trans rfl, hx308_0, hx308_1, hx308_2, hx308_3, hx308_4, hx308_5, hx308_6, hx308_7, hx308_8, hx309_0, hx309_1, hx309_2, hx309_3, hx309_4, hx309_5, hx309_6, hx309_7, hx309_8, hx310_0, hx310_1, hx310_2, hx310_3, hx310_4, hx310_5, hx310_6, hx310_7, hx310_8⟩ (fun hHeld => ?_); refine with_tabW swarflaw33_InterpolateMotions.tab11 swarflaw33_InterpolateMotions.bits11 (fun HT_ HW_ => ?_)
                generalize wr.drew = w45 at HO_7 HO_9 BK289 BK307 HB hx308_0 hx308_1 hx308_2 hx308_3 hx308_4 hx308_5 hx308_6 hx308_7 hx308_8 hx309_0 hx309_1 hx309_2 hx309_3 hx309_4 hx309_5 hx309_6 hx309_7 hx309_8 hx310_0 hx310_1 hx310_2 hx310_3 hx310_4 hx310_5 hx310_6 hx310_7 hx310_8 hHeld ⊢
                refine pu 0 54 (bzz 31 1) (any_of HT_.out (by kernel_rfl)) ?_
                refine pu 1 55 (bzz 31 3) (any_of HT_.out (by kernel_rfl)) ?_
                refine pu 2 56 (bzz 31 7) (any_of HT_.out (by kernel_rfl)) ?_
                refine pu 4 58 (bzz 31 23) (any_of HT_.out (by kernel_rfl)) ?_
                refine pu 5 59 (bzz 31 55) (any_of HT_.out (by kernel_rfl)) ?_
                refine pu 6 60 (bzz 31 119) (any_of HT_.out (by kernel_rfl)) ?_
                refine ta 3 57 (bzz 31 127) (take_ofW HT_.out HW_.out (by kernel_rfl)) hHeld ?_
                refine ta 7 61 (bzz 31 255) (take_ofW HT_.out HW_.out (by kernel_rfl)) hHeld ?_
                refine pu 8 62 (bzz 31 511) (any_of HT_.out (by kernel_rfl)) ?_
                refine pu 9 63 (bzz 31 1023) (any_of HT_.out (by kernel_rfl)) ?_
                refine pu 10 64 (bzz 31 2047) (any_of HT_.out (by kernel_rfl)) ?_
                refine pu 11 65 (bzz 31 4095) (any_of HT_.out (by kernel_rfl)) ?_
                refine pu 12 66 (bzz 31 8191) (any_of HT_.out (by kernel_rfl)) ?_
                refine pu 13 67 (bzz 31 16383) (any_of HT_.out (by kernel_rfl)) ?_
                refine ta 14 68 (bzz 31 32767) (take_ofW HT_.out HW_.out (by kernel_rfl)) hHeld ?_
                refine ta 15 69 (bzz 31 65535) (take_ofW HT_.out HW_.out (by kernel_rfl)) hHeld ?_
                refine pu 16 70 (bzz 31 131071) (any_of HT_.out (by kernel_rfl)) ?_
                refine pu 17 71 (bzz 31 262143) (any_of HT_.out (by kernel_rfl)) ?_
                refine pu 18 72 (bzz 31 524287) (any_of HT_.out (by kernel_rfl)) ?_
                refine po 19 73 (bzz 31 1048575) (any_of HT_.out (by kernel_rfl)) ?_
                refine po 20 74 (bzz 31 2097151) (any_of HT_.out (by kernel_rfl)) ?_
                refine po 21 75 (bzz 31 4194303) (any_of HT_.out (by kernel_rfl)) ?_
                refine po 22 76 (bzz 31 8388607) (any_of HT_.out (by kernel_rfl)) ?_
                refine po 23 77 (bzz 31 16777215) (any_of HT_.out (by kernel_rfl)) ?_
                refine po 24 78 (bzz 31 33554431) (any_of HT_.out (by kernel_rfl)) ?_
                refine po 25 79 (bzz 31 67108863) (any_of HT_.out (by kernel_rfl)) ?_
                refine po 26 80 (bzz 31 134217727) (any_of HT_.out (by kernel_rfl)) ?_
                refine po 27 81 (bzz 31 268435455) (any_of HT_.out (by kernel_rfl)) ?_
                refine po 28 82 (bzz 31 536870911) (any_of HT_.out (by kernel_rfl)) ?_
                refine po 29 83 (bzz 31 1073741823) (any_of HT_.out (by kernel_rfl)) ?_
                refine pu 30 84 (bzz 31 2147483647) (any_of HT_.out (by kernel_rfl)) ?_
                refine done_ (done_of HT_.out (by kernel_rfl)) ?_
                try go_wp2
                go_ret
                exact ⟨by first | rfl | (simp [errW_none, errW_some] <;> rfl) | (simp [*, errW_none, errW_some] <;> rfl), by repeat (first | (with_reducible first | exact HB.out | apply below_alloc | apply pw_below_drewN | apply below_drew1 | refine below_set ?_ GE289.out | refine below_set ?_ GE307.out) | exact HB.out)⟩
               ·rw [if_neg c44] at H
                have c44b0 : (!(((rd_T51 t299 x51_3).f0.f0) == x308000_3) || (!(((rd_T51 t299 x51_3).f0.f1) == x308001_3) || (!(((rd_T51 t299 x51_3).f0.f2) == x308002_3)))) = false := by simpa using c44
                clear c44
                by_cases c47 : (((rd_T51 t299 x51_3).f0.f0) == ((rd_T51 t299 x51_3).f1.f0) && (((rd_T51 t299 x51_3).f0.f1) == ((rd_T51 t299 x51_3).f1.f1) && (((rd_T51 t299 x51_3).f0.f2) == ((rd_T51 t299 x51_3).f1.f2)))) = true
                ·rw [if_pos c47] at H
                 have c47b0 : (((rd_T51 t299 x51_3).f0.f0) == ((rd_T51 t299 x51_3).f1.f0) && (((rd_T51 t299 x51_3).f0.f1) == ((rd_T51 t299 x51_3).f1.f1) && (((rd_T51 t299 x51_3).f0.f2) == ((rd_T51 t299 x51_3).f1.f2)))) = true := c47
                 (try (have c47b1 : decide (((rd_T51 t299 x51_3).f0.f0) = ((rd_T51 t299 x51_3).f1.f0) && (((rd_T51 t299 x51_3).f0.f1) == ((rd_T51 t299 x51_3).f1.f1) && (((rd_T51 t299 x51_3).f0.f2) == ((rd_T51 t299 x51_3).f1.f2)))) = true := by simpa using c47))
                 (try (have c47b2 : (((rd_T51 t299 x51_3).f0.f0) == ((rd_T51 t299 x51_3).f1.f0) && (((rd_T51 t299 x51_3).f0.f1) == ((rd_T51 t299 x51_3).f1.f1) && (((rd_T51 t299 x51_3).f0.f2) == ((rd_T51 t299 x51_3).f1.f2)))) = true := by simpa using c47))
                 clear c47
                 obtain rfl := Option.some.inj H
                 try go_wp2
                 have n0_ := Aside0.mk (Kd.R_drew HO_7.out)
                 have n1_ := Aside0.mk (Kd.R_drew HO_9.out)
                 have n2_ := Aside0.mk (blk_drew BK289.out)
                 have n3_ := Aside0.mk (blk_drew BK307.out)
                 have n4_ := Aside0.mk (below_drew1 HB.out)
                 clear HO_7
                 clear HO_9
                 clear BK289
                 clear BK307
                 clear HB
                 have HO_7 := n0_
                 have HO_9 := n1_
                 have BK289 := n2_
                 have BK307 := n3_
                 have HB := n4_
                 clear n0_ n1_ n2_ n3_ n4_
                 have p308 : 0 ≤ (x51_3 : Int) := of_decide_eq_true (by first | (with_reducible assumption) | assumption)
                 have q308 : x51_3 < (t299.length : Int) := of_decide_eq_true (by first | (with_reducible assumption) | assumption)
                 obtain ⟨ad308, e308, hx308_0, hx308_1, hx308_2, hx308_3, hx308_4, hx308_5, hx308_6, hx308_7, hx308_8⟩ := at_T51 (Kd.R_reads' HO_7.out).2.2 x51_3 p308 q308
                 cases e308
                 replace p308 := eq_true p308
                 replace q308 := eq_true q308
                 obtain ⟨Ao49, co49, eo49⟩ := Kd.R_slice HO_9.out
                 (first | subst eo49 | (injection eo49 with f1_ f2_ f3_; have f4_ := f1_.symm; have f5_ := f3_.symm; clear f1_ f2_ f3_; subst f4_; subst f5_))
                 have p309 : 0 ≤ (x51_3 : Int) := of_decide_eq_true (by first | (with_reducible assumption) | assumption)
                 have q309 : x51_3 < (t303.length : Int) := of_decide_eq_true (by first | (with_reducible assumption) | assumption)
                 obtain ⟨ad309, e309, hx309_0, hx309_1, hx309_2, hx309_3, hx309_4, hx309_5, hx309_6, hx309_7, hx309_8⟩ := at_T51 (Kd.R_reads' HO_9.out).2.2 x51_3 p309 q309
                 cases e309
                 replace p309 := eq_true p309
                 replace q309 := eq_true q309
                 have p310 : 0 ≤ (x51_3 : Int) := of_decide_eq_true (by first | (with_reducible assumption) | assumption)
                 have q310 : x51_3 < (t299.length : Int) := of_decide_eq_true (by first | (with_reducible assumption) | assumption)
                 obtain ⟨ad310, e310, hx310_0, hx310_1, hx310_2, hx310_3, hx310_4, hx310_5, hx310_6, hx310_7, hx310_8⟩ := at_T51 (Kd.R_reads' HO_7.out).2.2 x51_3 p310 q310
                 obtain rfl : ad308 = ad310 := (by injection e310)
                 replace p310 := eq_true p310
                 replace q310 := eq_true q310
                 have p311 : 0 ≤ (x51_3 : Int) := of_decide_eq_true (by first | (with_reducible assumption) | assumption)
                 have q311 : x51_3 < (t299.length : Int) := of_decide_eq_true (by first | (with_reducible assumption) | assumption)
                 obtain ⟨ad311, e311, hx311_0, hx311_1, hx311_2, hx311_3, hx311_4, hx311_5, hx311_6, hx311_7, hx311_8⟩ := at_T51 (Kd.R_reads' HO_7.out).2.2 x51_3 p311 q311
                 obtain rfl : ad308 = ad311 := (by injection e311)
                 replace p311 := eq_true p311
                 replace q311 := eq_true q311
                 have p312 : 0 ≤ (x51_3 : Int) := of_decide_eq_true (by first | (with_reducible assumption) | assumption)
                 have q312 : x51_3 < (t299.length : Int) := of_decide_eq_true (by first | (with_reducible assumption) | assumption)
                 obtain ⟨ad312, e312, hx312_0, hx312_1, hx312_2, hx312_3, hx312_4, hx312_5, hx312_6, hx312_7, hx312_8⟩ := at_T51 (Kd.R_reads' HO_7.out).2.2 x51_3 p312 q312
                 obtain rfl : ad308 = ad312 := (by injection e312)
                 replace p312 := eq_true p312
                 replace q312 := eq_true q312
                 refine start_ (n := 31) (S := fun w' => w'.cell? ⟨gb307, 0, none⟩ = some (.int .i64 x308000_3) ∧ w'.cell? ⟨gb307, 1, none⟩ = some (.int .i64 x308001_3) ∧ w'.cell? ⟨gb307, 2, none⟩ = some (.int .i64 x308002_3) ∧ w'.cell? (ad308.add ((x51_3).toNat * 9)) = some (.int .i64 ((rd_T51 t299 x51_3).f0.f0)) ∧ w'.cell? ⟨(ad308.add ((x51_3).toNat * 9)).block, (ad308.add ((x51_3).toNat * 9)).off + 1, none⟩ = some (.int .i64 ((rd_T51 t299 x51_3).f0.f1)) ∧ w'.cell? ⟨(ad308.add ((x51_3).toNat * 9)).block, (ad308.add ((x51_3).toNat * 9)).off + 2, none⟩ = some (.int .i64 ((rd_T51 t299 x51_3).f0.f2)) ∧ w'.cell? ⟨(ad308.add ((x51_3).toNat * 9)).block, (ad308.add ((x51_3).toNat * 9)).off + 3, none⟩ = some (.int .i64 ((rd_T51 t299 x51_3).f1.f0)) ∧ w'.cell? ⟨(ad308.add ((x51_3).toNat * 9)).block, (ad308.add ((x51_3).toNat * 9)).off + 4, none⟩ = some (.int .i64 ((rd_T51 t299 x51_3).f1.f1)) ∧ w'.cell? ⟨(ad308.add ((x51_3).toNat * 9)).block, (ad308.add ((x51_3).toNat * 9)).off + 5, none⟩ = some (.int .i64 ((rd_T51 t299 x51_3).f1.f2)) ∧ w'.cell? ⟨(ad308.add ((x51_3).toNat * 9)).block, (ad308.add ((x51_3).toNat * 9)).off + 6, none⟩ = some (.int .i64 ((rd_T51 t299 x51_3).f2)) ∧ w'.cell? ⟨(ad308.add ((x51_3).toNat * 9)).block, (ad308.add ((x51_3).toNat * 9)).off + 7, none⟩ = some (.int .i64 ((rd_T51 t299 x51_3).f3)) ∧ w'.cell? ⟨(ad308.add ((x51_3).toNat * 9)).block, (ad308.add ((x51_3).toNat * 9)).off + 8, none⟩ = some (.int .i64 ((rd_T51 t299 x51_3).f4)) ∧ w'.cell? (ad309.add ((x51_3).toNat * 9)) = some (.int .i64 ((rd_T51 t303 x51_3).f0.f0)) ∧ w'.cell? ⟨(ad309.add ((x51_3).toNat * 9)).block, (ad309.add ((x51_3).toNat * 9)).off + 1, none⟩ = some (.int .i64 ((rd_T51 t303 x51_3).f0.f1)) ∧ w'.cell? ⟨(ad309.add ((x51_3).toNat * 9)).block, (ad309.add ((x51_3).toNat * 9)).off + 2, none⟩ = some (.int .i64 ((rd_T51 t303 x51_3).f0.f2)) ∧ w'.cell? ⟨(ad309.add ((x51_3).toNat * 9)).block, (ad309.add ((x51_3).toNat * 9)).off + 3, none⟩ = some (.int .i64 ((rd_T51 t303 x51_3).f1.f0)) ∧ w'.cell? ⟨(ad309.add ((x51_3).toNat * 9)).block, (ad309.add ((x51_3).toNat * 9)).off + 4, none⟩ = some (.int .i64 ((rd_T51 t303 x51_3).f1.f1)) ∧ w'.cell? ⟨(ad309.add ((x51_3).toNat * 9)).block, (ad309.add ((x51_3).toNat * 9)).off + 5, none⟩ = some (.int .i64 ((rd_T51 t303 x51_3).f1.f2)) ∧ w'.cell? ⟨(ad309.add ((x51_3).toNat * 9)).block, (ad309.add ((x51_3).toNat * 9)).off + 6, none⟩ = some (.int .i64 ((rd_T51 t303 x51_3).f2)) ∧ w'.cell? ⟨(ad309.add ((x51_3).toNat * 9)).block, (ad309.add ((x51_3).toNat * 9)).off + 7, none⟩ = some (.int .i64 ((rd_T51 t303 x51_3).f3)) ∧ w'.cell? ⟨(ad309.add ((x51_3).toNat * 9)).block, (ad309.add ((x51_3).toNat * 9)).off + 8, none⟩ = some (.int .i64 ((rd_T51 t303 x51_3).f4)) ∧ w'.cell? (ad308.add ((x51_3).toNat * 9)) = some (.int .i64 ((rd_T51 t299 x51_3).f0.f0)) ∧ w'.cell? ⟨(ad308.add ((x51_3).toNat * 9)).block, (ad308.add ((x51_3).toNat * 9)).off + 1, none⟩ = some (.int .i64 ((rd_T51 t299 x51_3).f0.f1)) ∧ w'.cell? ⟨(ad308.add ((x51_3).toNat * 9)).block, (ad308.add ((x51_3).toNat * 9)).off + 2, none⟩ = some (.int .i64 ((rd_T51 t299 x51_3).f0.f2)) ∧ w'.cell? ⟨(ad308.add ((x51_3).toNat * 9)).block, (ad308.add ((x51_3).toNat * 9)).off + 3, none⟩ = some (.int .i64 ((rd_T51 t299 x51_3).f1.f0)) ∧ w'.cell? ⟨(ad308.add ((x51_3).toNat * 9)).block, (ad308.add ((x51_3).toNat * 9)).off + 4, none⟩ = some (.int .i64 ((rd_T51 t299 x51_3).f1.f1)) ∧ w'.cell? ⟨(ad308.add ((x51_3).toNat * 9)).block, (ad308.add ((x51_3).toNat * 9)).off + 5, none⟩ = some (.int .i64 ((rd_T51 t299 x51_3).f1.f2)) ∧ w'.cell? ⟨(ad308.add ((x51_3).toNat * 9)).block, (ad308.add ((x51_3).toNat * 9)).off + 6, none⟩ = some (.int .i64 ((rd_T51 t299 x51_3).f2)) ∧ w'.cell? ⟨(ad308.add ((x51_3).toNat * 9)).block, (ad308.add ((x51_3).toNat * 9)).off + 7, none⟩ = some (.int .i64 ((rd_T51 t299 x51_3).f3)) ∧ w'.cell? ⟨(ad308.add ((x51_3).toNat * 9)).block, (ad308.add ((x51_3).toNat * 9)).off + 8, none⟩ = some (.int .i64 ((rd_T51 t299 x51_3).f4)) ∧ w'.cell? (ad308.add ((x51_3).toNat * 9)) = some (.int .i64 ((rd_T51 t299 x51_3).f0.f0)) ∧ w'.cell? ⟨(ad308.add ((x51_3).toNat * 9)).block, (ad308.add ((x51_3).toNat * 9)).off + 1, none⟩ = some (.int .i64 ((rd_T51 t299 x51_3).f0.f1)) ∧ w'.cell? ⟨(ad308.add ((x51_3).toNat * 9)).block, (ad308.add ((x51_3).toNat * 9)).off + 2, none⟩ = some (.int .i64 ((rd_T51 t299 x51_3).f0.f2)) ∧ w'.cell? ⟨(ad308.add ((x51_3).toNat * 9)).block, (ad308.add ((x51_3).toNat * 9)).off + 3, none⟩ = some (.int .i64 ((rd_T51 t299 x51_3).f1.f0)) ∧ w'.cell? ⟨(ad308.add ((x51_3).toNat * 9)).block, (ad308.add ((x51_3).toNat * 9)).off + 4, none⟩ = some (.int .i64 ((rd_T51 t299 x51_3).f1.f1)) ∧ w'.cell? ⟨(ad308.add ((x51_3).toNat * 9)).block, (ad308.add ((x51_3).toNat * 9)).off + 5, none⟩ = some (.int .i64 ((rd_T51 t299 x51_3).f1.f2)) ∧ w'.cell? ⟨(ad308.add ((x51_3).toNat * 9)).block, (ad308.add ((x51_3).toNat * 9)).off + 6, none⟩ = some (.int .i64 ((rd_T51 t299 x51_3).f2)) ∧ w'.cell? ⟨(ad308.add ((x51_3).toNat * 9)).block, (ad308.add ((x51_3).toNat * 9)).off + 7, none⟩ = some (.int .i64 ((rd_T51 t299 x51_3).f3)) ∧ w'.cell? ⟨(ad308.add ((x51_3).toNat * 9)).block, (ad308.add ((x51_3).toNat * 9)).off + 8, none⟩ = some (.int .i64 ((rd_T51 t299 x51_3).f4)) ∧ w'.cell? (ad308.add ((x51_3).toNat * 9)) = some (.int .i64 ((rd_T51 t299 x51_3).f0.f0)) ∧ w'.cell? ⟨(ad308.add ((x51_3).toNat * 9)).block, (ad308.add ((x51_3).toNat * 9)).off + 1, none⟩ = some (.int .i64 ((rd_T51 t299 x51_3).f0.f1)) ∧ w'.cell? ⟨(ad308.add ((x51_3).toNat * 9)).block, (ad308.add ((x51_3).toNat * 9)).off + 2, none⟩ = some (.int .i64 ((rd_T51 t299 x51_3).f0.f2)) ∧ w'.cell? ⟨(ad308.add ((x51_3).toNat * 9)).block, (ad308.add ((x51_3).toNat * 9)).off + 3, none⟩ = some (.int .i64 ((rd_T51 t299 x51_3).f1.f0)) ∧ w'.cell? ⟨(ad308.add ((x51_3).toNat * 9)).block, (ad308.add ((x51_3).toNat * 9)).off + 4, none⟩ = some (.int .i64 ((rd_T51 t299 x51_3).f1.f1)) ∧ w'.cell? ⟨(ad308.add ((x51_3).toNat * 9)).block, (ad308.add ((x51_3).toNat * 9)).off + 5, none⟩ = some (.int .i64 ((rd_T51 t299 x51_3).f1.f2)) ∧ w'.cell? ⟨(ad308.add ((x51_3).toNat * 9)).block, (ad308.add ((x51_3).toNat * 9)).off + 6, none⟩ = some (.int .i64 ((rd_T51 t299 x51_3).f2)) ∧ w'.cell? ⟨(ad308.add ((x51_3).toNat * 9)).block, (ad308.add ((x51_3).toNat * 9)).off + 7, none⟩ = some (.int .i64 ((rd_T51 t299 x51_3).f3)) ∧ w'.cell? ⟨(ad308.add ((x51_3).toNat * 9)).block, (ad308.add ((x51_3).toNat * 9)).off + 8, none⟩ = some (.int .i64 ((rd_T51 t299 x51_3).f4))) (ds := []) #[false, false, false, false, false, false, false, false, false, false, false, false, false, false, false, false, false, false, false, false, false, false, false, false, false, false, false, false, false, false, false] (by kernel_rfl) rfl rfl ⟨(blk_cell BK307.out 0).trans rfl, (blk_cell BK307.out 1).trans rfl, (blk_cell BK307.out 2).trans rfl, hx308_0, hx308_1, hx308_2, hx308_3, hx308_4, hx308_5, hx308_6, hx308_7, hx308_8, hx309_0, hx309_1, hx309_2, hx309_3, hx309_4, hx309_5, hx309_6, hx309_7, hx309_8, hx310_0, hx310_1, hx310_2, hx310_3, hx310_4, hx310_5, hx310_6, hx310_7, hx310_8, hx311_0, hx311_1, hx311_2, hx311_3, hx311_4, hx311_5, hx311_6, hx311_7, hx311_8, hx312_0, hx312_1, hx312_2, hx312_3, hx312_4, hx312_5, hx312_6, hx312_7, hx312_8⟩ (fun hHeld => ?_); refine with_tabW swarflaw33_InterpolateMotions.tab11 swarflaw33_InterpolateMotions.bits11 (fun HT_ HW_ => ?_)
                 generalize wr.drew = w48 at HO_7 HO_9 BK289 BK307 HB hx308_0 hx308_1 hx308_2 hx308_3 hx308_4 hx308_5 hx308_6 hx308_7 hx308_8 hx309_0 hx309_1 hx309_2 hx309_3 hx309_4 hx309_5 hx309_6 hx309_7 hx309_8 hx310_0 hx310_1 hx310_2 hx310_3 hx310_4 hx310_5 hx310_6 hx310_7 hx310_8 hx311_0 hx311_1 hx311_2 hx311_3 hx311_4 hx311_5 hx311_6 hx311_7 hx311_8 hx312_0 hx312_1 hx312_2 hx312_3 hx312_4 hx312_5 hx312_6 hx312_7 hx312_8 hHeld ⊢
                 refine pu 0 54 (bzz 31 1) (any_of HT_.out (by kernel_rfl)) ?_
                 refine pu 1 55 (bzz 31 3) (any_of HT_.out (by kernel_rfl)) ?_
                 refine pu 2 56 (bzz 31 7) (any_of HT_.out (by kernel_rfl)) ?_
                 refine pu 4 58 (bzz 31 23) (any_of HT_.out (by kernel_rfl)) ?_
                 refine pu 5 59 (bzz 31 55) (any_of HT_.out (by kernel_rfl)) ?_
                 refine pu 6 60 (bzz 31 119) (any_of HT_.out (by kernel_rfl)) ?_
                 refine ta 3 57 (bzz 31 127) (take_ofW HT_.out HW_.out (by kernel_rfl)) hHeld ?_
                 refine ta 7 61 (bzz 31 255) (take_ofW HT_.out HW_.out (by kernel_rfl)) hHeld ?_
                 refine pu 8 62 (bzz 31 511) (any_of HT_.out (by kernel_rfl)) ?_
                 refine pu 9 63 (bzz 31 1023) (any_of HT_.out (by kernel_rfl)) ?_
                 refine pu 10 64 (bzz 31 2047) (any_of HT_.out (by kernel_rfl)) ?_
                 refine pu 11 65 (bzz 31 4095) (any_of HT_.out (by kernel_rfl)) ?_
                 refine pu 12 66 (bzz 31 8191) (any_of HT_.out (by kernel_rfl)) ?_
                 refine pu 13 67 (bzz 31 16383) (any_of HT_.out (by kernel_rfl)) ?_
                 refine ta 14 68 (bzz 31 32767) (take_ofW HT_.out HW_.out (by kernel_rfl)) hHeld ?_
                 refine ta 15 69 (bzz 31 65535) (take_ofW HT_.out HW_.out (by kernel_rfl)) hHeld ?_
                 refine pu 16 70 (bzz 31 131071) (any_of HT_.out (by kernel_rfl)) ?_
                 refine pu 17 71 (bzz 31 262143) (any_of HT_.out (by kernel_rfl)) ?_
                 refine pu 18 72 (bzz 31 524287) (any_of HT_.out (by kernel_rfl)) ?_
                 refine pu 19 73 (bzz 31 1048575) (any_of HT_.out (by kernel_rfl)) ?_
                 refine pu 20 74 (bzz 31 2097151) (any_of HT_.out (by kernel_rfl)) ?_
                 refine pu 21 75 (bzz 31 4194303) (any_of HT_.out (by kernel_rfl)) ?_
                 refine pu 22 76 (bzz 31 8388607) (any_of HT_.out (by kernel_rfl)) ?_
                 refine pu 24 78 (bzz 31 25165823) (any_of HT_.out (by kernel_rfl)) ?_
                 refine pu 25 79 (bzz 31 58720255) (any_of HT_.out (by kernel_rfl)) ?_
                 refine pu 26 80 (bzz 31 125829119) (any_of HT_.out (by kernel_rfl)) ?_
                 refine pu 27 81 (bzz 31 260046847) (any_of HT_.out (by kernel_rfl)) ?_
                 refine ta 23 77 (bzz 31 268435455) (take_ofW HT_.out HW_.out (by kernel_rfl)) hHeld ?_
                 refine ta 28 82 (bzz 31 536870911) (take_ofW HT_.out HW_.out (by kernel_rfl)) hHeld ?_
                 refine pu 29 83 (bzz 31 1073741823) (any_of HT_.out (by kernel_rfl)) ?_
                 refine pu 30 84 (bzz 31 2147483647) (any_of HT_.out (by kernel_rfl)) ?_
                 refine done_ (done_of HT_.out (by kernel_rfl)) ?_
                 try go_wp2
                 go_ret
                 exact ⟨by first | rfl | (simp [errW_none, errW_some] <;> rfl) | (simp [*, errW_none, errW_some] <;> rfl), by repeat (first | (with_reducible first | exact HB.out | apply below_alloc | apply pw_below_drewN | apply below_drew1 | refine below_set ?_ GE289.out | refine below_set ?_ GE307.out) | exact HB.out)⟩
                ·rw [if_neg c47] at H
                 have c47b0 : (((rd_T51 t299 x51_3).f0.f0) == ((rd_T51 t299 x51_3).f1.f0) && (((rd_T51 t299 x51_3).f0.f1) == ((rd_T51 t299 x51_3).f1.f1) && (((rd_T51 t299 x51_3).f0.f2) == ((rd_T51 t299 x51_3).f1.f2)))) = false := by simpa using c47
                 (try (have c47b1 : decide (((rd_T51 t299 x51_3).f0.f0) = ((rd_T51 t299 x51_3).f1.f0) && (((rd_T51 t299 x51_3).f0.f1) == ((rd_T51 t299 x51_3).f1.f1) && (((rd_T51 t299 x51_3).f0.f2) == ((rd_T51 t299 x51_3).f1.f2)))) = false := by simpa using c47))
                 (try (have c47b2 : (((rd_T51 t299 x51_3).f0.f0) == ((rd_T51 t299 x51_3).f1.f0) && (((rd_T51 t299 x51_3).f0.f1) == ((rd_T51 t299 x51_3).f1.f1) && (((rd_T51 t299 x51_3).f0.f2) == ((rd_T51 t299 x51_3).f1.f2)))) = false := by simpa using c47))
                 (try (have c47b3 : ¬ (((rd_T51 t299 x51_3).f0.f0) = ((rd_T51 t299 x51_3).f1.f0) && (((rd_T51 t299 x51_3).f0.f1) == ((rd_T51 t299 x51_3).f1.f1) && (((rd_T51 t299 x51_3).f0.f2) == ((rd_T51 t299 x51_3).f1.f2)))) := by simpa using c47))
                 clear c47
                 have H' := Aside0.mk H
                 clear H
                 try go_wp2
                 have n0_ := Aside0.mk (Kd.R_drew HO_7.out)
                 have n1_ := Aside0.mk (Kd.R_drew HO_9.out)
                 have n2_ := Aside0.mk (blk_drew BK289.out)
                 have n3_ := Aside0.mk (blk_drew BK307.out)
                 have n4_ := Aside0.mk (below_drew1 HB.out)
                 clear HO_7
                 clear HO_9
                 clear BK289
                 clear BK307
                 clear HB
                 have HO_7 := n0_
                 have HO_9 := n1_
                 have BK289 := n2_
                 have BK307 := n3_
                 have HB := n4_
                 clear n0_ n1_ n2_ n3_ n4_
                 have p308 : 0 ≤ (x51_3 : Int) := of_decide_eq_true (by first | (with_reducible assumption) | assumption)
                 have q308 : x51_3 < (t299.length : Int) := of_decide_eq_true (by first | (with_reducible assumption) | assumption)
                 obtain ⟨ad308, e308, hx308_0, hx308_1, hx308_2, hx308_3, hx308_4, hx308_5, hx308_6, hx308_7, hx308_8⟩ := at_T51 (Kd.R_reads' HO_7.out).2.2 x51_3 p308 q308
                 cases e308
                 replace p308 := eq_true p308
                 replace q308 := eq_true q308
                 obtain ⟨Ao51, co51, eo51⟩ := Kd.R_slice HO_9.out
                 (first | subst eo51 | (injection eo51 with f1_ f2_ f3_; have f4_ := f1_.symm; have f5_ := f3_.symm; clear f1_ f2_ f3_; subst f4_; subst f5_))
                 have p309 : 0 ≤ (x51_3 : Int) := of_decide_eq_true (by first | (with_reducible assumption) | assumption)
                 have q309 : x51_3 < (t303.length : Int) := of_decide_eq_true (by first | (with_reducible assumption) | assumption)
                 obtain ⟨ad309, e309, hx309_0, hx309_1, hx309_2, hx309_3, hx309_4, hx309_5, hx309_6, hx309_7, hx309_8⟩ := at_T51 (Kd.R_reads' HO_9.out).2.2 x51_3 p309 q309
                 cases e309
                 replace p309 := eq_true p309
                 replace q309 := eq_true q309
                 have p310 : 0 ≤ (x51_3 : Int) := of_decide_eq_true (by first | (with_reducible assumption) | assumption)
                 have q310 : x51_3 < (t299.length : Int) := of_decide_eq_true (by first | (with_reducible assumption) | assumption)
                 obtain ⟨ad310, e310, hx310_0, hx310_1, hx310_2, hx310_3, hx310_4, hx310_5, hx310_6, hx310_7, hx310_8⟩ := at_T51 (Kd.R_reads' HO_7.out).2.2 x51_3 p310 q310
                 obtain rfl : ad308 = ad310 := (by injection e310)
                 replace p310 := eq_true p310
                 replace q310 := eq_true q310
                 have p311 : 0 ≤ (x51_3 : Int) := of_decide_eq_true (by first | (with_reducible assumption) | assumption)
                 have q311 : x51_3 < (t299.length : Int) := of_decide_eq_true (by first | (with_reducible assumption) | assumption)
                 obtain ⟨ad311, e311, hx311_0, hx311_1, hx311_2, hx311_3, hx311_4, hx311_5, hx311_6, hx311_7, hx311_8⟩ := at_T51 (Kd.R_reads' HO_7.out).2.2 x51_3 p311 q311
                 obtain rfl : ad308 = ad311 := (by injection e311)
                 replace p311 := eq_true p311
                 replace q311 := eq_true q311
                 have p312 : 0 ≤ (x51_3 : Int) := of_decide_eq_true (by first | (with_reducible assumption) | assumption)
                 have q312 : x51_3 < (t299.length : Int) := of_decide_eq_true (by first | (with_reducible assumption) | assumption)
                 obtain ⟨ad312, e312, hx312_0, hx312_1, hx312_2, hx312_3, hx312_4, hx312_5, hx312_6, hx312_7, hx312_8⟩ := at_T51 (Kd.R_reads' HO_7.out).2.2 x51_3 p312 q312
                 obtain rfl : ad308 = ad312 := (by injection e312)
                 replace p312 := eq_true p312
                 replace q312 := eq_true q312
                 refine start_ (n := 31) (S := fun w' => w'.cell? ⟨gb307, 0, none⟩ = some (.int .i64 x308000_3) ∧ w'.cell? ⟨gb307, 1, none⟩ = some (.int .i64 x308001_3) ∧ w'.cell? ⟨gb307, 2, none⟩ = some (.int .i64 x308002_3) ∧ w'.cell? (ad308.add ((x51_3).toNat * 9)) = some (.int .i64 ((rd_T51 t299 x51_3).f0.f0)) ∧ w'.cell? ⟨(ad308.add ((x51_3).toNat * 9)).block, (ad308.add ((x51_3).toNat * 9)).off + 1, none⟩ = some (.int .i64 ((rd_T51 t299 x51_3).f0.f1)) ∧ w'.cell? ⟨(ad308.add ((x51_3).toNat * 9)).block, (ad308.add ((x51_3).toNat * 9)).off + 2, none⟩ = some (.int .i64 ((rd_T51 t299 x51_3).f0.f2)) ∧ w'.cell? ⟨(ad308.add ((x51_3).toNat * 9)).block, (ad308.add ((x51_3).toNat * 9)).off + 3, none⟩ = some (.int .i64 ((rd_T51 t299 x51_3).f1.f0)) ∧ w'.cell? ⟨(ad308.add ((x51_3).toNat * 9)).block, (ad308.add ((x51_3).toNat * 9)).off + 4, none⟩ = some (.int .i64 ((rd_T51 t299 x51_3).f1.f1)) ∧ w'.cell? ⟨(ad308.add ((x51_3).toNat * 9)).block, (ad308.add ((x51_3).toNat * 9)).off + 5, none⟩ = some (.int .i64 ((rd_T51 t299 x51_3).f1.f2)) ∧ w'.cell? ⟨(ad308.add ((x51_3).toNat * 9)).block, (ad308.add ((x51_3).toNat * 9)).off + 6, none⟩ = some (.int .i64 ((rd_T51 t299 x51_3).f2)) ∧ w'.cell? ⟨(ad308.add ((x51_3).toNat * 9)).block, (ad308.add ((x51_3).toNat * 9)).off + 7, none⟩ = some (.int .i64 ((rd_T51 t299 x51_3).f3)) ∧ w'.cell? ⟨(ad308.add ((x51_3).toNat * 9)).block, (ad308.add ((x51_3).toNat * 9)).off + 8, none⟩ = some (.int .i64 ((rd_T51 t299 x51_3).f4)) ∧ w'.cell? (ad309.add ((x51_3).toNat * 9)) = some (.int .i64 ((rd_T51 t303 x51_3).f0.f0)) ∧ w'.cell? ⟨(ad309.add ((x51_3).toNat * 9)).block, (ad309.add ((x51_3).toNat * 9)).off + 1, none⟩ = some (.int .i64 ((rd_T51 t303 x51_3).f0.f1)) ∧ w'.cell? ⟨(ad309.add ((x51_3).toNat * 9)).block, (ad309.add ((x51_3).toNat * 9)).off + 2, none⟩ = some (.int .i64 ((rd_T51 t303 x51_3).f0.f2)) ∧ w'.cell? ⟨(ad309.add ((x51_3).toNat * 9)).block, (ad309.add ((x51_3).toNat * 9)).off + 3, none⟩ = some (.int .i64 ((rd_T51 t303 x51_3).f1.f0)) ∧ w'.cell? ⟨(ad309.add ((x51_3).toNat * 9)).block, (ad309.add ((x51_3).toNat * 9)).off + 4, none⟩ = some (.int .i64 ((rd_T51 t303 x51_3).f1.f1)) ∧ w'.cell? ⟨(ad309.add ((x51_3).toNat * 9)).block, (ad309.add ((x51_3).toNat * 9)).off + 5, none⟩ = some (.int .i64 ((rd_T51 t303 x51_3).f1.f2)) ∧ w'.cell? ⟨(ad309.add ((x51_3).toNat * 9)).block, (ad309.add ((x51_3).toNat * 9)).off + 6, none⟩ = some (.int .i64 ((rd_T51 t303 x51_3).f2)) ∧ w'.cell? ⟨(ad309.add ((x51_3).toNat * 9)).block, (ad309.add ((x51_3).toNat * 9)).off + 7, none⟩ = some (.int .i64 ((rd_T51 t303 x51_3).f3)) ∧ w'.cell? ⟨(ad309.add ((x51_3).toNat * 9)).block, (ad309.add ((x51_3).toNat * 9)).off + 8, none⟩ = some (.int .i64 ((rd_T51 t303 x51_3).f4)) ∧ w'.cell? (ad308.add ((x51_3).toNat * 9)) = some (.int .i64 ((rd_T51 t299 x51_3).f0.f0)) ∧ w'.cell? ⟨(ad308.add ((x51_3).toNat * 9)).block, (ad308.add ((x51_3).toNat * 9)).off + 1, none⟩ = some (.int .i64 ((rd_T51 t299 x51_3).f0.f1)) ∧ w'.cell? ⟨(ad308.add ((x51_3).toNat * 9)).block, (ad308.add ((x51_3).toNat * 9)).off + 2, none⟩ = some (.int .i64 ((rd_T51 t299 x51_3).f0.f2)) ∧ w'.cell? ⟨(ad308.add ((x51_3).toNat * 9)).block, (ad308.add ((x51_3).toNat * 9)).off + 3, none⟩ = some (.int .i64 ((rd_T51 t299 x51_3).f1.f0)) ∧ w'.cell? ⟨(ad308.add ((x51_3).toNat * 9)).block, (ad308.add ((x51_3).toNat * 9)).off + 4, none⟩ = some (.int .i64 ((rd_T51 t299 x51_3).f1.f1)) ∧ w'.cell? ⟨(ad308.add ((x51_3).toNat * 9)).block, (ad308.add ((x51_3).toNat * 9)).off + 5, none⟩ = some (.int .i64 ((rd_T51 t299 x51_3).f1.f2)) ∧ w'.cell? ⟨(ad308.add ((x51_3).toNat * 9)).block, (ad308.add ((x51_3).toNat * 9)).off + 6, none⟩ = some (.int .i64 ((rd_T51 t299 x51_3).f2)) ∧ w'.cell? ⟨(ad308.add ((x51_3).toNat * 9)).block, (ad308.add ((x51_3).toNat * 9)).off + 7, none⟩ = some (.int .i64 ((rd_T51 t299 x51_3).f3)) ∧ w'.cell? ⟨(ad308.add ((x51_3).toNat * 9)).block, (ad308.add ((x51_3).toNat * 9)).off + 8, none⟩ = some (.int .i64 ((rd_T51 t299 x51_3).f4)) ∧ w'.cell? (ad308.add ((x51_3).toNat * 9)) = some (.int .i64 ((rd_T51 t299 x51_3).f0.f0)) ∧ w'.cell? ⟨(ad308.add ((x51_3).toNat * 9)).block, (ad308.add ((x51_3).toNat * 9)).off + 1, none⟩ = some (.int .i64 ((rd_T51 t299 x51_3).f0.f1)) ∧ w'.cell? ⟨(ad308.add ((x51_3).toNat * 9)).block, (ad308.add ((x51_3).toNat * 9)).off + 2, none⟩ = some (.int .i64 ((rd_T51 t299 x51_3).f0.f2)) ∧ w'.cell? ⟨(ad308.add ((x51_3).toNat * 9)).block, (ad308.add ((x51_3).toNat * 9)).off + 3, none⟩ = some (.int .i64 ((rd_T51 t299 x51_3).f1.f0)) ∧ w'.cell? ⟨(ad308.add ((x51_3).toNat * 9)).block, (ad308.add ((x51_3).toNat * 9)).off + 4, none⟩ = some (.int .i64 ((rd_T51 t299 x51_3).f1.f1)) ∧ w'.cell? ⟨(ad308.add ((x51_3).toNat * 9)).block, (ad308.add ((x51_3).toNat * 9)).off + 5, none⟩ = some (.int .i64 ((rd_T51 t299 x51_3).f1.f2)) ∧ w'.cell? ⟨(ad308.add ((x51_3).toNat * 9)).block, (ad308.add ((x51_3).toNat * 9)).off + 6, none⟩ = some (.int .i64 ((rd_T51 t299 x51_3).f2)) ∧ w'.cell? ⟨(ad308.add ((x51_3).toNat * 9)).block, (ad308.add ((x51_3).toNat * 9)).off + 7, none⟩ = some (.int .i64 ((rd_T51 t299 x51_3).f3)) ∧ w'.cell? ⟨(ad308.add ((x51_3).toNat * 9)).block, (ad308.add ((x51_3).toNat * 9)).off + 8, none⟩ = some (.int .i64 ((rd_T51 t299 x51_3).f4)) ∧ w'.cell? (ad308.add ((x51_3).toNat * 9)) = some (.int .i64 ((rd_T51 t299 x51_3).f0.f0)) ∧ w'.cell? ⟨(ad308.add ((x51_3).toNat * 9)).block, (ad308.add ((x51_3).toNat * 9)).off + 1, none⟩ = some (.int .i64 ((rd_T51 t299 x51_3).f0.f1)) ∧ w'.cell? ⟨(ad308.add ((x51_3).toNat * 9)).block, (ad308.add ((x51_3).toNat * 9)).off + 2, none⟩ = some (.int .i64 ((rd_T51 t299 x51_3).f0.f2)) ∧ w'.cell? ⟨(ad308.add ((x51_3).toNat * 9)).block, (ad308.add ((x51_3).toNat * 9)).off + 3, none⟩ = some (.int .i64 ((rd_T51 t299 x51_3).f1.f0)) ∧ w'.cell? ⟨(ad308.add ((x51_3).toNat * 9)).block, (ad308.add ((x51_3).toNat * 9)).off + 4, none⟩ = some (.int .i64 ((rd_T51 t299 x51_3).f1.f1)) ∧ w'.cell? ⟨(ad308.add ((x51_3).toNat * 9)).block, (ad308.add ((x51_3).toNat * 9)).off + 5, none⟩ = some (.int .i64 ((rd_T51 t299 x51_3).f1.f2)) ∧ w'.cell? ⟨(ad308.add ((x51_3).toNat * 9)).block, (ad308.add ((x51_3).toNat * 9)).off + 6, none⟩ = some (.int .i64 ((rd_T51 t299 x51_3).f2)) ∧ w'.cell? ⟨(ad308.add ((x51_3).toNat * 9)).block, (ad308.add ((x51_3).toNat * 9)).off + 7, none⟩ = some (.int .i64 ((rd_T51 t299 x51_3).f3)) ∧ w'.cell? ⟨(ad308.add ((x51_3).toNat * 9)).block, (ad308.add ((x51_3).toNat * 9)).off + 8, none⟩ = some (.int .i64 ((rd_T51 t299 x51_3).f4))) (ds := []) #[false, false, false, false, false, false, false, false, false, false, false, false, false, false, false, false, false, false, false, false, false, false, false, false, false, false, false, false, false, false, false] (by kernel_rfl) rfl rfl ⟨(blk_cell BK307.out 0).trans rfl, (blk_cell BK307.out 1).trans rfl, (blk_cell BK307.out 2).trans rfl, hx308_0, hx308_1, hx308_2, hx308_3, hx308_4, hx308_5, hx308_6, hx308_7, hx308_8, hx309_0, hx309_1, hx309_2, hx309_3, hx309_4, hx309_5, hx309_6, hx309_7, hx309_8, hx310_0, hx310_1, hx310_2, hx310_3, hx310_4, hx310_5, hx310_6, hx310_7, hx310_8, hx311_0, hx311_1, hx311_2, hx311_3, hx311_4, hx311_5, hx311_6, hx311_7, hx311_8, hx312_0, hx312_1, hx312_2, hx312_3, hx312_4, hx312_5, hx312_6, hx312_7, hx312_8⟩ (fun hHeld => ?_); refine with_tabW swarflaw33_InterpolateMotions.tab11 swarflaw33_InterpolateMotions.bits11 (fun HT_ HW_ => ?_)
                 generalize wr.drew = w50 at HO_7 HO_9 BK289 BK307 HB hx308_0 hx308_1 hx308_2 hx308_3 hx308_4 hx308_5 hx308_6 hx308_7 hx308_8 hx309_0 hx309_1 hx309_2 hx309_3 hx309_4 hx309_5 hx309_6 hx309_7 hx309_8 hx310_0 hx310_1 hx310_2 hx310_3 hx310_4 hx310_5 hx310_6 hx310_7 hx310_8 hx311_0 hx311_1 hx311_2 hx311_3 hx311_4 hx311_5 hx311_6 hx311_7 hx311_8 hx312_0 hx312_1 hx312_2 hx312_3 hx312_4 hx312_5 hx312_6 hx312_7 hx312_8 hHeld ⊢
                 refine pu 0 54 (bzz 31 1) (any_of HT_.out (by kernel_rfl)) ?_
                 refine pu 1 55 (bzz 31 3) (any_of HT_.out (by kernel_rfl)) ?_
                 refine pu 2 56 (bzz 31 7) (any_of HT_.out (by kernel_rfl)) ?_
                 refine pu 4 58 (bzz 31 23) (any_of HT_.out (by kernel_rfl)) ?_
                 refine pu 5 59 (bzz 31 55) (any_of HT_.out (by kernel_rfl)) ?_
                 refine pu 6 60 (bzz 31 119) (any_of HT_.out (by kernel_rfl)) ?_
                 refine ta 3 57 (bzz 31 127) (take_ofW HT_.out HW_.out (by kernel_rfl)) hHeld ?_
                 refine ta 7 61 (bzz 31 255) (take_ofW HT_.out HW_.out (by kernel_rfl)) hHeld ?_
                 refine pu 8 62 (bzz 31 511) (any_of HT_.out (by kernel_rfl)) ?_
                 refine pu 9 63 (bzz 31 1023) (any_of HT_.out (by kernel_rfl)) ?_
                 refine pu 10 64 (bzz 31 2047) (any_of HT_.out (by kernel_rfl)) ?_
                 refine pu 11 65 (bzz 31 4095) (any_of HT_.out (by kernel_rfl)) ?_
                 refine pu 12 66 (bzz 31 8191) (any_of HT_.out (by kernel_rfl)) ?_
                 refine pu 13 67 (bzz 31 16383) (any_of HT_.out (by kernel_rfl)) ?_
                 refine ta 14 68 (bzz 31 32767) (take_ofW HT_.out HW_.out (by kernel_rfl)) hHeld ?_
                 refine ta 15 69 (bzz 31 65535) (take_ofW HT_.out HW_.out (by kernel_rfl)) hHeld ?_
                 refine pu 16 70 (bzz 31 131071) (any_of HT_.out (by kernel_rfl)) ?_
                 refine pu 17 71 (bzz 31 262143) (any_of HT_.out (by kernel_rfl)) ?_
                 refine pu 18 72 (bzz 31 524287) (any_of HT_.out (by kernel_rfl)) ?_
                 refine pu 19 73 (bzz 31 1048575) (any_of HT_.out (by kernel_rfl)) ?_
                 refine pu 20 74 (bzz 31 2097151) (any_of HT_.out (by kernel_rfl)) ?_
                 refine pu 21 75 (bzz 31 4194303) (any_of HT_.out (by kernel_rfl)) ?_
                 refine pu 22 76 (bzz 31 8388607) (any_of HT_.out (by kernel_rfl)) ?_
                 refine pu 24 78 (bzz 31 25165823) (any_of HT_.out (by kernel_rfl)) ?_
                 refine pu 25 79 (bzz 31 58720255) (any_of HT_.out (by kernel_rfl)) ?_
                 refine pu 26 80 (bzz 31 125829119) (any_of HT_.out (by kernel_rfl)) ?_
                 refine pu 27 81 (bzz 31 260046847) (any_of HT_.out (by kernel_rfl)) ?_
                 refine ta 23 77 (bzz 31 268435455) (take_ofW HT_.out HW_.out (by kernel_rfl)) hHeld ?_
                 refine ta 28 82 (bzz 31 536870911) (take_ofW HT_.out HW_.out (by kernel_rfl)) hHeld ?_
                 refine pu 29 83 (bzz 31 1073741823) (any_of HT_.out (by kernel_rfl)) ?_
                 refine pu 30 84 (bzz 31 2147483647) (any_of HT_.out (by kernel_rfl)) ?_
                 refine done_ (done_of HT_.out (by kernel_rfl)) ?_
                 have p313 : 0 ≤ (x51_3 : Int) := of_decide_eq_true (by first | (with_reducible assumption) | assumption)
                 have q313 : x51_3 < (t299.length : Int) := of_decide_eq_true (by first | (with_reducible assumption) | assumption)
                 obtain ⟨ad313, e313, hx313_0, hx313_1, hx313_2, hx313_3, hx313_4, hx313_5, hx313_6, hx313_7, hx313_8⟩ := at_T51 (Kd.R_reads' HO_7.out).2.2 x51_3 p313 q313
                 obtain rfl : ad308 = ad313 := (by injection e313)
                 replace p313 := eq_true p313
                 replace q313 := eq_true q313
                 have hnb52 := NB307_289.out
                 have hnc52 := NB289_307.out
                 obtain ⟨hcz53_0, hcz53_1, hcz53_2⟩ := cells3 BK307.out
                 have hfz53_0 := blk_frozen BK307.out 0
                 have hfz53_1 := blk_frozen BK307.out 1
                 have hfz53_2 := blk_frozen BK307.out 2
                 try go_wp2
                 go_roundg k3
                 case measure => have := HJ3.out; have := HJ18.out; have := HK3.out; omega
                 case rel => exact ⟨(wrap64 (x51_3 + 1)), ((rd_T51 t299 x51_3).f1.f0), ((rd_T51 t299 x51_3).f1.f1), ((rd_T51 t299 x51_3).f1.f2), (by first | rfl | (simp; done) | (simp [*]; done)), H', ⟨by have := HJ3.out; have := HJ18.out; have := HK3.out; omega⟩, ⟨by (with_reducible repeat (first | apply Kd.R_alloc | apply Kd.R_drewN | apply Kd.R_drew)); exact Kd.R_mono (Kd.R_far (p := ⟨gb307, 2, none⟩) (Kd.R_far (p := ⟨gb307, 1, none⟩) (Kd.R_far (p := ⟨gb307, 0, none⟩) (Kd.R_types HO_7.out BK307.out (by decide)) (fun _ hk => hk.2) (.int .i64 ((rd_T51 t299 x51_3).f1.f0))) (fun _ hk => hk.2) (.int .i64 ((rd_T51 t299 x51_3).f1.f1))) (fun _ hk => hk.2) (.int .i64 ((rd_T51 t299 x51_3).f1.f2))) (fun _ hk => hk.1)⟩, ⟨by (with_reducible repeat (first | apply Kd.R_alloc | apply Kd.R_drewN | apply Kd.R_drew)); exact Kd.R_mono (Kd.R_far (p := ⟨gb307, 2, none⟩) (Kd.R_far (p := ⟨gb307, 1, none⟩) (Kd.R_far (p := ⟨gb307, 0, none⟩) (Kd.R_types HO_9.out BK307.out (by decide)) (fun _ hk => hk.2) (.int .i64 ((rd_T51 t299 x51_3).f1.f0))) (fun _ hk => hk.2) (.int .i64 ((rd_T51 t299 x51_3).f1.f1))) (fun _ hk => hk.2) (.int .i64 ((rd_T51 t299 x51_3).f1.f2))) (fun _ hk => hk.1)⟩, ⟨by (with_reducible repeat (first | refine blk_drewN ?_ _ | refine blk_drew ?_ | refine blk_alloc ?_ _)); refine blk_far ?_ NB289_307.out _; (with_reducible repeat (first | refine blk_drewN ?_ _ | refine blk_drew ?_ | refine blk_alloc ?_ _)); refine blk_far ?_ NB289_307.out _; (with_reducible repeat (first | refine blk_drewN ?_ _ | refine blk_drew ?_ | refine blk_alloc ?_ _)); refine blk_far ?_ NB289_307.out _; (with_reducible repeat (first | refine blk_drewN ?_ _ | refine blk_drew ?_ | refine blk_alloc ?_ _)); exact BK289.out⟩, ⟨by (with_reducible repeat (first | refine blk_drewN ?_ _ | refine blk_drew ?_ | refine blk_alloc ?_ _)); refine blk_put (cs := #[.int .i64 ((rd_T51 t299 x51_3).f1.f0), .int .i64 ((rd_T51 t299 x51_3).f1.f1), .int .i64 x308002_3]) ?_ 2 _ rfl; (with_reducible repeat (first | refine blk_drewN ?_ _ | refine blk_drew ?_ | refine blk_alloc ?_ _)); refine blk_put (cs := #[.int .i64 ((rd_T51 t299 x51_3).f1.f0), .int .i64 x308001_3, .int .i64 x308002_3]) ?_ 1 _ rfl; (with_reducible repeat (first | refine blk_drewN ?_ _ | refine blk_drew ?_ | refine blk_alloc ?_ _)); refine blk_put (cs := #[.int .i64 x308000_3, .int .i64 x308001_3, .int .i64 x308002_3]) ?_ 0 _ rfl; (with_reducible repeat (first | refine blk_drewN ?_ _ | refine blk_drew ?_ | refine blk_alloc ?_ _)); exact BK307.out⟩, ⟨by repeat (first | (with_reducible first | exact HB.out | apply below_alloc | apply pw_below_drewN | apply below_drew1 | refine below_set ?_ GE289.out | refine below_set ?_ GE307.out) | exact HB.out)⟩⟩
             ·rw [if_neg c40] at H
              exact absurd H (by simp)
            ·rw [if_neg c39] at H
             exact absurd H (by simp)
           ·rw [if_neg c38] at H
            exact absurd H (by simp)
          ·rw [if_neg c37] at H
           have c37b0 : decide (x51_3 < (t299.length : Int)) = false := decide_eq_false c37
           clear c37
           by_cases c54 : t302 = 0
           ·rw [if_pos c54] at H
            have c54b0 : (t302 == 0) = true := beq_iff_eq.mpr c54
            have c54b1 : (t302 != 0) = false := bne_eq_false_iff_eq.mpr c54
            clear c54
            replace H := Option.bind_eq_some_iff.mp H
            obtain ⟨⟨t314, t315, t316⟩, A550, H⟩ := H
            replace H : (some (x308000_3 == t314 && (x308001_3 == t315 && (x308002_3 == t316)))) = some r := H
            have A55 := Aside0.mk A550
            clear A550
            obtain rfl := Option.some.inj H
            try go_wp2
            have n0_ := Aside0.mk (Kd.R_drew HO_7.out)
            have n1_ := Aside0.mk (Kd.R_drew HO_9.out)
            have n2_ := Aside0.mk (blk_drew BK289.out)
            have n3_ := Aside0.mk (blk_drew BK307.out)
            have n4_ := Aside0.mk (below_drew1 HB.out)
            clear HO_7
            clear HO_9
            clear BK289
            clear BK307
            clear HB
            have HO_7 := n0_
            have HO_9 := n1_
            have BK289 := n2_
            have BK307 := n3_
            have HB := n4_
            clear n0_ n1_ n2_ n3_ n4_
            refine start_ (n := 10) (S := fun w' => w'.cell? ⟨gb307, 0, none⟩ = some (.int .i64 x308000_3) ∧ w'.cell? ⟨gb307, 1, none⟩ = some (.int .i64 x308001_3) ∧ w'.cell? ⟨gb307, 2, none⟩ = some (.int .i64 x308002_3) ∧ w'.cell? ⟨gb289, 0, none⟩ = some (.int .i64 a0_0) ∧ w'.cell? ⟨gb289, 1, none⟩ = some (.int .i64 a0_1) ∧ w'.cell? ⟨gb289, 2, none⟩ = some (.int .i64 a0_2)) (ds := []) #[false, false, false, false, false, false, false, false, false, false] (by kernel_rfl) rfl rfl ⟨(blk_cell BK307.out 0).trans rfl, (blk_cell BK307.out 1).trans rfl, (blk_cell BK307.out 2).trans rfl, (blk_cell BK289.out 0).trans rfl, (blk_cell BK289.out 1).trans rfl, (blk_cell BK289.out 2).trans rfl⟩ (fun hHeld => ?_); refine with_tabW swarflaw33_InterpolateMotions.tab15 swarflaw33_InterpolateMotions.bits15 (fun HT_ HW_ => ?_)
            generalize wr.drew = w56 at HO_7 HO_9 BK289 BK307 HB hHeld ⊢
            refine pu 0 91 (bzz 10 1) (any_of HT_.out (by kernel_rfl)) ?_
            refine pu 1 92 (bzz 10 3) (any_of HT_.out (by kernel_rfl)) ?_
            refine pu 2 93 (bzz 10 7) (any_of HT_.out (by kernel_rfl)) ?_
            refine pu 5 96 (bzz 10 39) (any_of HT_.out (by kernel_rfl)) ?_
            refine ta 3 94 (bzz 10 47) (take_ofW HT_.out HW_.out (by kernel_rfl)) hHeld ?_
            refine ta 4 95 (bzz 10 63) (take_ofW HT_.out HW_.out (by kernel_rfl)) hHeld ?_
            refine one_ (i := 6) (N := some 97) (bzz 10 127) rfl rfl (one_of HT_.out (by kernel_rfl)) (by decide) (fun K hK => ?_)
            refine goes_ Try.func26 (by kernel_rfl) rfl #[.agg #[.int .i64 a0_0, .int .i64 a0_1, .int .i64 a0_2], .slice A1 l1.length c1] (by rfl) rfl rfl (by (try simp only [List.map_toArray, List.map_cons, List.map_nil]); first | done | rfl | (simp only [List.length_drop, List.length_take]; rfl)) ?_
            with_reducible refine (swarfref33_End.calls a0_0 a0_1 a0_2 _ _ l1 t314 t315 t316 _ ?side1 ?side2 A55.out).mono ?_
            (case side1 => repeat (first | exact (Kd.C_below HR1.out HB.out) | (with_reducible refine Kd.C_alloc ?_ _) | (with_reducible refine Kd.C_drewN ?_ _) | (with_reducible refine Kd.C_drew ?_)))
            (case side2 => exact HC1.out)
            rintro e w57 ⟨rfl, hb⟩
            refine ⟨_, rfl, ?_⟩
            have n0_ := Aside0.mk (Kd.R_below (by first | exact HO_7.out | exact Kd.R_drewN HO_7.out _) hb)
            have n1_ := Aside0.mk (Kd.R_below (by first | exact HO_9.out | exact Kd.R_drewN HO_9.out _) hb)
            have n2_ := Aside0.mk (blk_below (by exact BK289.out) hb)
            have n3_ := Aside0.mk (blk_below (by exact BK307.out) hb)
            have n4_ := Aside0.mk (below_step (by first | exact HB.out | exact pw_below_drewN HB.out _) hb)
            clear HO_7
            clear HO_9
            clear BK289
            clear BK307
            clear HB
            have HO_7 := n0_
            have HO_9 := n1_
            have BK289 := n2_
            have BK307 := n3_
            have HB := n4_
            clear n0_ n1_ n2_ n3_ n4_
            (try clear hb)
            (try clear hb2)
            (try clear hk)
            (try clear hi)
            refine hK.out _ _ ⟨(blk_cell BK307.out 0).trans rfl, (blk_cell BK307.out 1).trans rfl, (blk_cell BK307.out 2).trans rfl, (blk_cell BK289.out 0).trans rfl, (blk_cell BK289.out 1).trans rfl, (blk_cell BK289.out 2).trans rfl⟩ (fun hHeld => ?_)
            clear hK K
            refine norm_ (a' := ?_) ?_ ?_
            rotate_left
            ·show Act.put _ (some 97) _ = _
             simp only [Act.put, List.setIfInBounds_toArray, List.set_cons_zero, List.set_cons_succ, i64_w, i32_w]
             rfl
            refine pu 7 98 (bzz 10 255) (any_of HT_.out (by kernel_rfl)) ?_
            refine pu 8 99 (bzz 10 511) (any_of HT_.out (by kernel_rfl)) ?_
            refine pu 9 6 (bzz 10 1023) (any_of HT_.out (by kernel_rfl)) ?_
            refine done_ (done_of HT_.out (by kernel_rfl)) ?_
            try go_wp2
            go_ret
            exact ⟨by first | rfl | (simp [errW_none, errW_some] <;> rfl) | (simp [*, errW_none, errW_some] <;> rfl), by repeat (first | (with_reducible first | exact HB.out | apply below_alloc | apply pw_below_drewN | apply below_drew1 | refine below_set ?_ GE289.out | refine below_set ?_ GE307.out) | exact HB.out)⟩
           ·rw [if_neg c54] at H
            have c54b0 : (t302 == 0) = false := beq_eq_false_iff_ne.mpr c54
            have c54b1 : (t302 != 0) = true := bne_iff_ne.mpr c54
            obtain rfl := Option.some.inj H
            try go_wp2
            have n0_ := Aside0.mk (Kd.R_drew HO_7.out)
            have n1_ := Aside0.mk (Kd.R_drew HO_9.out)
            have n2_ := Aside0.mk (blk_drew BK289.out)
            have n3_ := Aside0.mk (blk_drew BK307.out)
            have n4_ := Aside0.mk (below_drew1 HB.out)
            clear HO_7
            clear HO_9
            clear BK289
            clear BK307
            clear HB
            have HO_7 := n0_
            have HO_9 := n1_
            have BK289 := n2_
            have BK307 := n3_
            have HB := n4_
            clear n0_ n1_ n2_ n3_ n4_
            refine start_ (n := 10) (S := fun w' => True) (ds := []) #[false, false, false, false, false, false, false, false, false, false] (by kernel_rfl) rfl rfl trivial (fun hHeld => ?_); refine with_tabW swarflaw33_InterpolateMotions.tab15 swarflaw33_InterpolateMotions.bits15 (fun HT_ HW_ => ?_)
            generalize wr.drew = w58 at HO_7 HO_9 BK289 BK307 HB hHeld ⊢
            refine pu 0 91 (bzz 10 1) (any_of HT_.out (by kernel_rfl)) ?_
            refine pu 1 92 (bzz 10 3) (any_of HT_.out (by kernel_rfl)) ?_
            refine pu 2 93 (bzz 10 7) (any_of HT_.out (by kernel_rfl)) ?_
            refine po 3 94 (bzz 10 15) (any_of HT_.out (by kernel_rfl)) ?_
            refine po 4 95 (bzz 10 31) (any_of HT_.out (by kernel_rfl)) ?_
            refine po 5 96 (bzz 10 63) (any_of HT_.out (by kernel_rfl)) ?_
            refine po 6 97 (bzz 10 127) (any_of HT_.out (by kernel_rfl)) ?_
            refine po 7 98 (bzz 10 255) (any_of HT_.out (by kernel_rfl)) ?_
            refine pu 8 99 (bzz 10 511) (any_of HT_.out (by kernel_rfl)) ?_
            refine pu 9 6 (bzz 10 1023) (any_of HT_.out (by kernel_rfl)) ?_
            refine done_ (done_of HT_.out (by kernel_rfl)) ?_
            try go_wp2
            go_ret
            exact ⟨by first | rfl | (simp [errW_none, errW_some] <;> rfl) | (simp [*, errW_none, errW_some] <;> rfl), by repeat (first | (with_reducible first | exact HB.out | apply below_alloc | apply pw_below_drewN | apply below_drew1 | refine below_set ?_ GE289.out | refine below_set ?_ GE307.out) | exact HB.out)⟩
    ·rw [if_neg c16] at H
     exact absurd H (by simp)
end Go.Proofs.Ytblonchpophnkaa.F
