-- The machine side of a proof, written by a program of the session out of Lean's print of the loaded functions. Lean checks it.
import Derived.Test.YtmaegpblaihepaaWc
import Derived.Test.YtmaegpblaihepaaFx0
import Derived.Test.YtmaegpblaihepaaFa
import Derived.Test.YtmaegpblaihepaaFx9
import Derived.Test.YtmaegpblaihepaaFx18
import Derived.Test.YtmaegpblaihepaaFx19
import Derived.Test.YtmaegpblaihepaaFx22
import Derived.Test.YtmaegpblaihepaaFx23
namespace Go.Proofs.Ytmaegpblaihepaa.F
open Go.RowKit Go.Proofs.YtmaegpblaihepaaW.PrintWords Go.Proofs.YtmaegpblaihepaaW.PrintLast Go.Proofs.YtmaegpblaihepaaW.PrintMore
attribute [local go_sem] max2_int min2_int max_two min_two max_three min_three max_four min_four   -- for this text's walks alone
set_option linter.unusedVariables false
set_option linter.unusedSimpArgs false
attribute [local go_sem high] eqA42
mutual
def controller_check.l0 : Nat → List (S55) → List (S55) → Int → Int → Int → Int → Int → Option (Int)
 | 0, _, _, _, _, _, _, _ => none
 | k + 1, x0, x16, x17, x18, x157000, x157001, x157002 => if x18 < x17 then (if 0 ≤ x18 then (if x18 < (x16.length : Int) then (if ((rd_T55 x16 x18).f2) < 0 then (some 1) else (if x18 > 0 then (if 0 ≤ (wrap64 (x18 - 1)) then (if (wrap64 (x18 - 1)) < (x0.length : Int) then (if (!(((rd_T55 x0 (wrap64 (x18 - 1))).f1.f0) == ((rd_T55 x16 x18).f0.f0)) || (!(((rd_T55 x0 (wrap64 (x18 - 1))).f1.f1) == ((rd_T55 x16 x18).f0.f1)) || (!(((rd_T55 x0 (wrap64 (x18 - 1))).f1.f2) == ((rd_T55 x16 x18).f0.f2))))) = true then (some 1) else (controller_check.l0 k x0 x16 x17 (wrap64 (x18 + 1)) x157000 x157001 x157002)) else (none)) else (none)) else (controller_check.l0 k x0 x16 x17 (wrap64 (x18 + 1)) x157000 x157001 x157002))) else (none)) else (none)) else (controller_check.l1 k x0 x0 (x0.length : Int) 0 x157000 x157001 x157002)
def controller_check.l1 : Nat → List (S55) → List (S55) → Int → Int → Int → Int → Int → Option (Int)
 | 0, _, _, _, _, _, _, _ => none
 | k + 1, x0, x42, x43, x44, x157000, x157001, x157002 => if x44 < x43 then (if 0 ≤ x44 then (if x44 < (x42.length : Int) then ((controller_far.f ((rd_T55 x42 x44).f0.f0) ((rd_T55 x42 x44).f0.f1) ((rd_T55 x42 x44).f0.f2)).bind fun t163 => (if t163 = true then (some 11) else ((controller_far.f ((rd_T55 x42 x44).f1.f0) ((rd_T55 x42 x44).f1.f1) ((rd_T55 x42 x44).f1.f2)).bind fun t164 => (if t164 = true then (some 11) else (controller_check.l1 k x0 x42 x43 (wrap64 (x44 + 1)) x157000 x157001 x157002))))) else (none)) else (none)) else (if (x0.length : Int) > 20000 then (some 3) else (controller_check.l2 k x0 (x0.length : Int) 0 x157000 x157001 x157002))
def controller_check.l2 : Nat → List (S55) → Int → Int → Int → Int → Int → Option (Int)
 | 0, _, _, _, _, _, _ => none
 | k + 1, x60, x61, x62, x157000, x157001, x157002 => if x62 < x61 then (if 0 ≤ x62 then (if x62 < (x60.length : Int) then ((controller_length.f k ((rd_T55 x60 x62).f0.f0) ((rd_T55 x60 x62).f0.f1) ((rd_T55 x60 x62).f0.f2) ((rd_T55 x60 x62).f1.f0) ((rd_T55 x60 x62).f1.f1) ((rd_T55 x60 x62).f1.f2) ((rd_T55 x60 x62).f2) ((rd_T55 x60 x62).f3) ((rd_T55 x60 x62).f4)).bind fun t167 => ((controller_limit.f ((rd_T55 x60 x62).f0.f0) ((rd_T55 x60 x62).f0.f1) ((rd_T55 x60 x62).f0.f2) ((rd_T55 x60 x62).f1.f0) ((rd_T55 x60 x62).f1.f1) ((rd_T55 x60 x62).f1.f2) ((rd_T55 x60 x62).f2) ((rd_T55 x60 x62).f3) ((rd_T55 x60 x62).f4) x157000 x157001 x157002).bind fun bt168 => ((profile_Steps.f k t167 bt168.1 bt168.2.1 bt168.2.2).bind fun bt171 => (if bt171.2 = 0 then (controller_check.l2 k x60 x61 (wrap64 (x62 + 1)) x157000 x157001 x157002) else (some bt171.2))))) else (none)) else (none)) else (some 0)
end
def controller_check.f (k : Nat) (l0 : List (S55)) (a1_0 : Int) (a1_1 : Int) (a1_2 : Int) : Option (Int) := (profile_Valid.f a1_0 a1_1 a1_2).bind fun t157 => (if t157 = 0 then (controller_check.l0 k l0 l0 (l0.length : Int) 0 a1_0 a1_1 a1_2) else (some 1))
theorem controller_check.mono_l : ∀ k, (∀ y0 y1 y2 y3 y4 y5 y6, LeO (controller_check.l0 k y0 y1 y2 y3 y4 y5 y6) (controller_check.l0 (k + 1) y0 y1 y2 y3 y4 y5 y6)) ∧ (∀ y0 y1 y2 y3 y4 y5 y6, LeO (controller_check.l1 k y0 y1 y2 y3 y4 y5 y6) (controller_check.l1 (k + 1) y0 y1 y2 y3 y4 y5 y6)) ∧ (∀ y0 y1 y2 y3 y4 y5, LeO (controller_check.l2 k y0 y1 y2 y3 y4 y5) (controller_check.l2 (k + 1) y0 y1 y2 y3 y4 y5))
 | 0 => ⟨fun _ _ _ _ _ _ _ r h => by simp [controller_check.l0] at h, fun _ _ _ _ _ _ _ r h => by simp [controller_check.l1] at h, fun _ _ _ _ _ _ r h => by simp [controller_check.l2] at h⟩
 | k + 1 => by
  obtain ⟨ih0, ih1, ih2⟩ := controller_check.mono_l k
  refine ⟨?_, ?_, ?_⟩
  ·intro y0 y1 y2 y3 y4 y5 y6
   unfold controller_check.l0
   repeat' first
   | (with_reducible exact ih0 _ _ _ _ _ _ _)
   | (with_reducible exact ih1 _ _ _ _ _ _ _)
   | (with_reducible exact ih2 _ _ _ _ _ _)
   | (with_reducible exact controller_length.mono _ _ _ _ _ _ _ _ _ _)
   | (with_reducible exact profile_Steps.mono _ _ _ _ _)
   | (with_reducible exact LeO.refl _)
   | (with_reducible exact LeO.none _)
   | (with_reducible refine LeO.ite ?_ ?_)
   | (with_reducible refine LeO.bind ?_ (fun _ => ?_))
   | exact ih0 _ _ _ _ _ _ _
   | exact ih1 _ _ _ _ _ _ _
   | exact ih2 _ _ _ _ _ _
   | exact controller_length.mono _ _ _ _ _ _ _ _ _ _
   | exact profile_Steps.mono _ _ _ _ _
   | exact LeO.none _
   | refine LeO.ite ?_ ?_
   | refine LeO.bind ?_ (fun _ => ?_)
  ·intro y0 y1 y2 y3 y4 y5 y6
   unfold controller_check.l1
   repeat' first
   | (with_reducible exact ih0 _ _ _ _ _ _ _)
   | (with_reducible exact ih1 _ _ _ _ _ _ _)
   | (with_reducible exact ih2 _ _ _ _ _ _)
   | (with_reducible exact controller_length.mono _ _ _ _ _ _ _ _ _ _)
   | (with_reducible exact profile_Steps.mono _ _ _ _ _)
   | (with_reducible exact LeO.refl _)
   | (with_reducible exact LeO.none _)
   | (with_reducible refine LeO.ite ?_ ?_)
   | (with_reducible refine LeO.bind ?_ (fun _ => ?_))
   | exact ih0 _ _ _ _ _ _ _
   | exact ih1 _ _ _ _ _ _ _
   | exact ih2 _ _ _ _ _ _
   | exact controller_length.mono _ _ _ _ _ _ _ _ _ _
   | exact profile_Steps.mono _ _ _ _ _
   | exact LeO.none _
   | refine LeO.ite ?_ ?_
   | refine LeO.bind ?_ (fun _ => ?_)
  ·intro y0 y1 y2 y3 y4 y5
   unfold controller_check.l2
   repeat' first
   | (with_reducible exact ih0 _ _ _ _ _ _ _)
   | (with_reducible exact ih1 _ _ _ _ _ _ _)
   | (with_reducible exact ih2 _ _ _ _ _ _)
   | (with_reducible exact controller_length.mono _ _ _ _ _ _ _ _ _ _)
   | (with_reducible exact profile_Steps.mono _ _ _ _ _)
   | (with_reducible exact LeO.refl _)
   | (with_reducible exact LeO.none _)
   | (with_reducible refine LeO.ite ?_ ?_)
   | (with_reducible refine LeO.bind ?_ (fun _ => ?_))
   | exact ih0 _ _ _ _ _ _ _
   | exact ih1 _ _ _ _ _ _ _
   | exact ih2 _ _ _ _ _ _
   | exact controller_length.mono _ _ _ _ _ _ _ _ _ _
   | exact profile_Steps.mono _ _ _ _ _
   | exact LeO.none _
   | refine LeO.ite ?_ ?_
   | refine LeO.bind ?_ (fun _ => ?_)
theorem controller_check.mono : ∀ a0 a1 a2 a3 k, LeO (controller_check.f k a0 a1 a2 a3) (controller_check.f (k + 1) a0 a1 a2 a3) := by
 intro a0 a1 a2 a3 k
 obtain ⟨ih0, ih1, ih2⟩ := controller_check.mono_l k
 unfold controller_check.f
 repeat' first
   | (with_reducible exact ih0 _ _ _ _ _ _ _)
   | (with_reducible exact ih1 _ _ _ _ _ _ _)
   | (with_reducible exact ih2 _ _ _ _ _ _)
   | (with_reducible exact controller_length.mono _ _ _ _ _ _ _ _ _ _)
   | (with_reducible exact profile_Steps.mono _ _ _ _ _)
   | (with_reducible exact LeO.refl _)
   | (with_reducible exact LeO.none _)
   | (with_reducible refine LeO.ite ?_ ?_)
   | (with_reducible refine LeO.bind ?_ (fun _ => ?_))
   | exact ih0 _ _ _ _ _ _ _
   | exact ih1 _ _ _ _ _ _ _
   | exact ih2 _ _ _ _ _ _
   | exact controller_length.mono _ _ _ _ _ _ _ _ _ _
   | exact profile_Steps.mono _ _ _ _ _
   | exact LeO.none _
   | refine LeO.ite ?_ ?_
   | refine LeO.bind ?_ (fun _ => ?_)
def controller_check.T6 : Bool × List (List Nat × List Nat) := (true, [([], []), ([0], [0]), ([1], [1]), ([2], [2]), ([3], [3]), ([4, 3], [3, 4]), ([5, 3, 3], [3, 5]), ([6], [6]), ([6], [6]), ([8, 6], [6, 8]), ([7, 9, 6], [6, 7, 9]), ([10, 6], [6, 10]), ([11, 6], [6, 11]), ([6], [6]), ([13, 6], [6, 13]), ([12, 14, 6], [6, 12, 14]), ([6, 15, 3], [3, 6, 15]), ([3, 16], [3, 16])])
def controller_check.B6 : List Nat := [0, 1, 3, 7, 15, 31, 63, 127, 127, 383, 1023, 2047, 4095, 127, 8319, 32767, 65535, 131071]
theorem controller_check.tab6 : rtab .any (opsOf Try.f21 6) = controller_check.T6 := by kernel_rfl
theorem controller_check.bits6 : waitsOk controller_check.T6.2 controller_check.B6 = true := by kernel_rfl
def controller_check.T20 : Bool × List (List Nat × List Nat) := (true, [([], []), ([0], [0]), ([], []), ([], []), ([2, 3, 1], [2, 3]), ([1, 4, 4], [1, 4]), ([5], [5]), ([6], [6]), ([6], [6]), ([7, 5, 0, 1, 2, 3, 4, 5, 6, 7], [7]), ([8, 9, 0, 1, 2, 3, 4, 5, 6, 7, 8, 9], [8])])
def controller_check.B20 : List Nat := [0, 1, 0, 0, 15, 31, 63, 127, 127, 255, 1023]
theorem controller_check.tab20 : rtab .any (opsOf Try.f21 20) = controller_check.T20 := by kernel_rfl
theorem controller_check.bits20 : waitsOk controller_check.T20.2 controller_check.B20 = true := by kernel_rfl
set_option maxHeartbeats 8000000 in
set_option maxRecDepth 100000 in
theorem controller_check.calls (k : Nat) (A0 : Option Addr) (c0 : Nat) (l0 : List (S55)) (a1_0 : Int) (a1_1 : Int) (a1_2 : Int) (r : Int) (w : World) (hr0 : Kd.C k55 w A0 l0.length l0) (hc0 : l0.length ≤ c0) (h : controller_check.f k l0 a1_0 a1_1 a1_2 = some r) :
  Calls Try.prog 21 #[.slice A0 l0.length c0, .agg #[.int .i64 a1_0, .int .i64 a1_1, .int .i64 a1_2]] w fun e w' => e = .returned (.int .i64 r) ∧ Below w.heap.size w w' := by
 have hu31 := Try.underlying31
 have hu55 := Try.underlying55
 have hu42 := Try.underlying42
 have HR0 := Aside0.mk hr0
 have HC0 := Aside0.mk hc0
 clear hr0 hc0
 have HB := Aside0.mk (Below.refl w.heap.size w)
 have H : ((profile_Valid.f a1_0 a1_1 a1_2).bind fun t157 => (if t157 = 0 then (controller_check.l0 k l0 l0 (l0.length : Int) 0 a1_0 a1_1 a1_2) else (some 1))) = some r := h
 clear h
 replace H := Option.bind_eq_some_iff.mp H
 obtain ⟨t157, A30, H⟩ := H
 replace H : (if t157 = 0 then (controller_check.l0 k l0 l0 (l0.length : Int) 0 a1_0 a1_1 a1_2) else (some 1)) = some r := H
 have A3 := Aside0.mk A30
 clear A30
 by_cases c4 : t157 = 0
 ·rw [if_pos c4] at H
  have c4b0 : (t157 == 0) = true := beq_iff_eq.mpr c4
  have c4b1 : (t157 != 0) = false := bne_eq_false_iff_eq.mpr c4
  clear c4
  have H' := Aside0.mk H
  clear H
  go_enter Try.func21, Try.ntmps21
  go_wp2_with (first | ((with_reducible refine gate_dst (N := 3) rfl ?_); refine box_event ?hg (N := 3) ?hd (cs := #[.int .i64 a1_0, .int .i64 a1_1, .int .i64 a1_2]) (t := 31) ?hr ?_; (case hd => rfl); (case hg => rfl); (case hr => first | (go_simp; done) | (go_simp; rfl)); intro gb156 hg w5 hbox hb; have n0_ := Aside0.mk (below_step (by repeat (first | (with_reducible first | exact HB.out | apply below_alloc | apply pw_below_drewN | apply below_drew1) | exact HB.out)) hb); have n1_ := Aside0.mk (hbox); have n2_ := Aside0.mk ((by rw [hg]; exact (below_size (by repeat (first | (with_reducible first | exact HB.out | apply below_alloc | apply pw_below_drewN | apply below_drew1) | exact HB.out))) : w.heap.size ≤ gb156)); have n3_ := Aside0.mk ((by rw [hg]; exact (below_size (by repeat (first | (with_reducible first | exact HB.out | apply below_alloc | apply pw_below_drewN | apply below_drew1) | exact HB.out))) : w.heap.size ≤ gb156)); clear HB; have HB := n0_; have BK156 := n1_; have GW156 := n2_; have GE156 := n3_; clear n0_ n1_ n2_ n3_; clear hb hbox hg; have hcz6_0 : w5.cell? ⟨gb156, 0, none⟩ = some (.int .i64 a1_0) := (blk_cell BK156.out 0).trans rfl; have hcz6_1 : w5.cell? ⟨gb156, 1, none⟩ = some (.int .i64 a1_1) := (blk_cell BK156.out 1).trans rfl; have hcz6_2 : w5.cell? ⟨gb156, 2, none⟩ = some (.int .i64 a1_2) := (blk_cell BK156.out 2).trans rfl; have hfz6_0 := blk_frozen BK156.out 0; have hfz6_1 := blk_frozen BK156.out 1; have hfz6_2 := blk_frozen BK156.out 2) | ((with_reducible refine gate_callee (f := 35) rfl ?_); refine goesL_ (some 14) rfl rfl Try.func35 (by kernel_rfl) rfl #[.agg #[.int .i64 a1_0, .int .i64 a1_1, .int .i64 a1_2]] rfl (by (try simp only [List.map_toArray, List.map_cons, List.map_nil]); first | done | rfl | (simp only [List.length_drop, List.length_take]; rfl)) ?_; (with_reducible refine (profile_Valid.calls a1_0 a1_1 a1_2 t157 _ A3.out).mono ?_); rintro e w7 ⟨rfl, hb⟩; refine ⟨_, rfl, ?_⟩; have n0_ := Aside0.mk (blk_below (g := gb156) (o := .cells #[.int .i64 a1_0, .int .i64 a1_1, .int .i64 a1_2] 31 (0, 0)) (by (with_reducible repeat (first | refine blk_drewN ?_ _ | refine blk_drew ?_ | refine blk_alloc ?_ _)); exact BK156.out) hb); have n1_ := Aside0.mk (below_step (by repeat (first | (with_reducible first | exact HB.out | apply below_alloc | apply pw_below_drewN | apply below_drew1 | refine below_set ?_ GE156.out) | exact HB.out)) hb); clear BK156; clear HB; have BK156 := n0_; have HB := n1_; clear n0_ n1_; (try clear hb); (try clear hb2); (try clear hk); (try clear hi)))
  go_loopg [18] k (fun kq v18 w' => ∃ (x18_1 : Int), v18 = .int .i64 x18_1 ∧ Aside0 (controller_check.l0 kq l0 l0 (l0.length : Int) x18_1 a1_0 a1_1 a1_2 = some r) ∧ Aside0 (kq ≤ k) ∧ Aside0 (w'.heap[gb156]? = some (.cells #[.int .i64 a1_0, .int .i64 a1_1, .int .i64 a1_2] 31 (0, 0))) ∧ Aside0 (Below w.heap.size w w'))
  case atStart => exact ⟨(0), (by first | rfl | (simp; done) | (simp [*]; done)), H', ⟨Nat.le_refl _⟩, ⟨by (with_reducible repeat (first | refine blk_drewN ?_ _ | refine blk_drew ?_ | refine blk_alloc ?_ _)); exact BK156.out⟩, ⟨by repeat (first | (with_reducible first | exact HB.out | apply below_alloc | apply pw_below_drewN | apply below_drew1 | refine below_set ?_ GE156.out) | exact HB.out)⟩⟩
  case round =>
   clear H'
   try clear c2
   try clear p2
   try clear c3
   try clear c4
   try clear c4b0
   try clear c4b1
   try clear hcz6_0
   try clear hcz6_1
   try clear hcz6_2
   try clear hfz6_0
   try clear hfz6_1
   try clear hfz6_2
   obtain ⟨x18_1, rfl, HA, HK1, BK156, HB⟩ := hrel
   cases gk with
   | zero => exact absurd HA.out (by simp [controller_check.l0])
   | succ k1 =>
    have H := HA.out
    clear HA
    simp only [controller_check.l0] at H
    by_cases c8 : x18_1 < (l0.length : Int)
    ·rw [if_pos c8] at H
     have c8b0 : decide (x18_1 < (l0.length : Int)) = true := decide_eq_true c8
     clear c8
     by_cases c9 : 0 ≤ x18_1
     ·rw [if_pos c9] at H
      have c9b0 : decide (0 ≤ x18_1) = true := decide_eq_true c9
      clear c9
      by_cases c10 : x18_1 < (l0.length : Int)
      ·rw [if_pos c10] at H
       have c10b0 : decide (x18_1 < (l0.length : Int)) = true := decide_eq_true c10
       clear c10
       by_cases c11 : ((rd_T55 l0 x18_1).f2) < 0
       ·rw [if_pos c11] at H
        have c11b0 : decide (((rd_T55 l0 x18_1).f2) < 0) = true := decide_eq_true c11
        clear c11
        obtain rfl := Option.some.inj H
        have p158 : 0 ≤ (x18_1 : Int) := of_decide_eq_true (by first | (with_reducible assumption) | assumption)
        have q158 : x18_1 < (l0.length : Int) := of_decide_eq_true (by first | (with_reducible assumption) | assumption)
        obtain ⟨ad158, e158, hx158_0, hx158_1, hx158_2, hx158_3, hx158_4, hx158_5, hx158_6, hx158_7, hx158_8⟩ := at_T55 HR0.out x18_1 p158 q158
        cases e158
        replace hx158_0 := (HB.out.cell (World.block_lt_of_cell? w _ hx158_0)).trans hx158_0
        replace hx158_1 := (HB.out.cell (World.block_lt_of_cell? w _ hx158_1)).trans hx158_1
        replace hx158_2 := (HB.out.cell (World.block_lt_of_cell? w _ hx158_2)).trans hx158_2
        replace hx158_3 := (HB.out.cell (World.block_lt_of_cell? w _ hx158_3)).trans hx158_3
        replace hx158_4 := (HB.out.cell (World.block_lt_of_cell? w _ hx158_4)).trans hx158_4
        replace hx158_5 := (HB.out.cell (World.block_lt_of_cell? w _ hx158_5)).trans hx158_5
        replace hx158_6 := (HB.out.cell (World.block_lt_of_cell? w _ hx158_6)).trans hx158_6
        replace hx158_7 := (HB.out.cell (World.block_lt_of_cell? w _ hx158_7)).trans hx158_7
        replace hx158_8 := (HB.out.cell (World.block_lt_of_cell? w _ hx158_8)).trans hx158_8
        replace p158 := eq_true p158
        replace q158 := eq_true q158
        try go_wp2_with (first | ((with_reducible refine gate_dst (N := 6) rfl ?_); refine box_event ?hg (N := 6) ?hd (cs := #[.int .i64 0, .int .i64 0, .int .i64 0, .int .i64 0, .int .i64 0, .int .i64 0, .int .i64 0, .int .i64 0, .int .i64 0]) (t := 55) ?hr ?_; (case hd => rfl); (case hg => rfl); (case hr => first | (go_simp; done) | (go_simp; rfl)); intro gb159 hg w12 hbox hb; have n0_ := Aside0.mk (blk_below (g := gb156) (o := .cells #[.int .i64 a1_0, .int .i64 a1_1, .int .i64 a1_2] 31 (0, 0)) (by (with_reducible repeat (first | refine blk_drewN ?_ _ | refine blk_drew ?_ | refine blk_alloc ?_ _)); exact BK156.out) hb); have n1_ := Aside0.mk (below_step (by repeat (first | (with_reducible first | exact HB.out | apply below_alloc | apply pw_below_drewN | apply below_drew1 | refine below_set ?_ GE156.out) | exact HB.out)) hb); have n2_ := Aside0.mk (hbox); have n3_ := Aside0.mk ((by rw [hg]; exact (below_size (by repeat (first | (with_reducible first | exact HB.out | apply below_alloc | apply pw_below_drewN | apply below_drew1 | refine below_set ?_ GE156.out) | exact HB.out))) : w.heap.size ≤ gb159)); have n4_ := Aside0.mk ((by rw [hg]; exact (below_size (by repeat (first | (with_reducible first | exact HB.out | apply below_alloc | apply pw_below_drewN | apply below_drew1 | refine below_set ?_ GE156.out) | exact HB.out))) : w.heap.size ≤ gb159)); have n5_ := Aside0.mk ((by rw [hg]; exact Nat.ne_of_lt (blk_lt (g := gb156) (o := .cells #[.int .i64 a1_0, .int .i64 a1_1, .int .i64 a1_2] 31 (0, 0)) (by (with_reducible repeat (first | refine blk_drewN ?_ _ | refine blk_drew ?_ | refine blk_alloc ?_ _)); exact BK156.out)) : gb156 ≠ gb159)); have n6_ := Aside0.mk ((by rw [hg]; exact Nat.ne_of_gt (blk_lt (g := gb156) (o := .cells #[.int .i64 a1_0, .int .i64 a1_1, .int .i64 a1_2] 31 (0, 0)) (by (with_reducible repeat (first | refine blk_drewN ?_ _ | refine blk_drew ?_ | refine blk_alloc ?_ _)); exact BK156.out)) : gb159 ≠ gb156)); clear BK156; clear HB; have BK156 := n0_; have HB := n1_; have BK159 := n2_; have GW159 := n3_; have GE159 := n4_; have NB156_159 := n5_; have NB159_156 := n6_; clear n0_ n1_ n2_ n3_ n4_ n5_ n6_; clear hb hbox hg; have hnb13 := NB159_156.out; have hnc13 := NB156_159.out; have hcz14_0 : w12.cell? ⟨gb159, 0, none⟩ = some (.int .i64 0) := (blk_cell BK159.out 0).trans rfl; have hcz14_1 : w12.cell? ⟨gb159, 1, none⟩ = some (.int .i64 0) := (blk_cell BK159.out 1).trans rfl; have hcz14_2 : w12.cell? ⟨gb159, 2, none⟩ = some (.int .i64 0) := (blk_cell BK159.out 2).trans rfl; have hcz14_3 : w12.cell? ⟨gb159, 3, none⟩ = some (.int .i64 0) := (blk_cell BK159.out 3).trans rfl; have hcz14_4 : w12.cell? ⟨gb159, 4, none⟩ = some (.int .i64 0) := (blk_cell BK159.out 4).trans rfl; have hcz14_5 : w12.cell? ⟨gb159, 5, none⟩ = some (.int .i64 0) := (blk_cell BK159.out 5).trans rfl; have hcz14_6 : w12.cell? ⟨gb159, 6, none⟩ = some (.int .i64 0) := (blk_cell BK159.out 6).trans rfl; have hcz14_7 : w12.cell? ⟨gb159, 7, none⟩ = some (.int .i64 0) := (blk_cell BK159.out 7).trans rfl; have hcz14_8 : w12.cell? ⟨gb159, 8, none⟩ = some (.int .i64 0) := (blk_cell BK159.out 8).trans rfl; have hfz14_0 := blk_frozen BK159.out 0; have hfz14_1 := blk_frozen BK159.out 1; have hfz14_2 := blk_frozen BK159.out 2; have hfz14_3 := blk_frozen BK159.out 3; have hfz14_4 := blk_frozen BK159.out 4; have hfz14_5 := blk_frozen BK159.out 5; have hfz14_6 := blk_frozen BK159.out 6; have hfz14_7 := blk_frozen BK159.out 7; have hfz14_8 := blk_frozen BK159.out 8))
        have n0_ : Aside0 ((((((((((w12.setCell ⟨gb159, 0, none⟩ (.int .i64 ((rd_T55 l0 x18_1).f0.f0))).setCell ⟨gb159, 1, none⟩ (.int .i64 ((rd_T55 l0 x18_1).f0.f1))).setCell ⟨gb159, 2, none⟩ (.int .i64 ((rd_T55 l0 x18_1).f0.f2))).setCell ⟨gb159, 3, none⟩ (.int .i64 ((rd_T55 l0 x18_1).f1.f0))).setCell ⟨gb159, 4, none⟩ (.int .i64 ((rd_T55 l0 x18_1).f1.f1))).setCell ⟨gb159, 5, none⟩ (.int .i64 ((rd_T55 l0 x18_1).f1.f2))).setCell ⟨gb159, 6, none⟩ (.int .i64 ((rd_T55 l0 x18_1).f2))).setCell ⟨gb159, 7, none⟩ (.int .i64 ((rd_T55 l0 x18_1).f3))).setCell ⟨gb159, 8, none⟩ (.int .i64 ((rd_T55 l0 x18_1).f4))).heap[gb156]? = some (.cells #[.int .i64 a1_0, .int .i64 a1_1, .int .i64 a1_2] 31 (0, 0))) := ⟨by (with_reducible repeat (first | refine blk_drewN ?_ _ | refine blk_drew ?_ | refine blk_alloc ?_ _)); refine blk_far ?_ NB156_159.out _; (with_reducible repeat (first | refine blk_drewN ?_ _ | refine blk_drew ?_ | refine blk_alloc ?_ _)); refine blk_far ?_ NB156_159.out _; (with_reducible repeat (first | refine blk_drewN ?_ _ | refine blk_drew ?_ | refine blk_alloc ?_ _)); refine blk_far ?_ NB156_159.out _; (with_reducible repeat (first | refine blk_drewN ?_ _ | refine blk_drew ?_ | refine blk_alloc ?_ _)); refine blk_far ?_ NB156_159.out _; (with_reducible repeat (first | refine blk_drewN ?_ _ | refine blk_drew ?_ | refine blk_alloc ?_ _)); refine blk_far ?_ NB156_159.out _; (with_reducible repeat (first | refine blk_drewN ?_ _ | refine blk_drew ?_ | refine blk_alloc ?_ _)); refine blk_far ?_ NB156_159.out _; (with_reducible repeat (first | refine blk_drewN ?_ _ | refine blk_drew ?_ | refine blk_alloc ?_ _)); refine blk_far ?_ NB156_159.out _; (with_reducible repeat (first | refine blk_drewN ?_ _ | refine blk_drew ?_ | refine blk_alloc ?_ _)); refine blk_far ?_ NB156_159.out _; (with_reducible repeat (first | refine blk_drewN ?_ _ | refine blk_drew ?_ | refine blk_alloc ?_ _)); refine blk_far ?_ NB156_159.out _; (with_reducible repeat (first | refine blk_drewN ?_ _ | refine blk_drew ?_ | refine blk_alloc ?_ _)); exact BK156.out⟩
        have n1_ : Aside0 ((((((((((w12.setCell ⟨gb159, 0, none⟩ (.int .i64 ((rd_T55 l0 x18_1).f0.f0))).setCell ⟨gb159, 1, none⟩ (.int .i64 ((rd_T55 l0 x18_1).f0.f1))).setCell ⟨gb159, 2, none⟩ (.int .i64 ((rd_T55 l0 x18_1).f0.f2))).setCell ⟨gb159, 3, none⟩ (.int .i64 ((rd_T55 l0 x18_1).f1.f0))).setCell ⟨gb159, 4, none⟩ (.int .i64 ((rd_T55 l0 x18_1).f1.f1))).setCell ⟨gb159, 5, none⟩ (.int .i64 ((rd_T55 l0 x18_1).f1.f2))).setCell ⟨gb159, 6, none⟩ (.int .i64 ((rd_T55 l0 x18_1).f2))).setCell ⟨gb159, 7, none⟩ (.int .i64 ((rd_T55 l0 x18_1).f3))).setCell ⟨gb159, 8, none⟩ (.int .i64 ((rd_T55 l0 x18_1).f4))).heap[gb159]? = some (.cells #[.int .i64 ((rd_T55 l0 x18_1).f0.f0), .int .i64 ((rd_T55 l0 x18_1).f0.f1), .int .i64 ((rd_T55 l0 x18_1).f0.f2), .int .i64 ((rd_T55 l0 x18_1).f1.f0), .int .i64 ((rd_T55 l0 x18_1).f1.f1), .int .i64 ((rd_T55 l0 x18_1).f1.f2), .int .i64 ((rd_T55 l0 x18_1).f2), .int .i64 ((rd_T55 l0 x18_1).f3), .int .i64 ((rd_T55 l0 x18_1).f4)] 55 (0, 0))) := ⟨by (with_reducible repeat (first | refine blk_drewN ?_ _ | refine blk_drew ?_ | refine blk_alloc ?_ _)); refine blk_put (cs := #[.int .i64 ((rd_T55 l0 x18_1).f0.f0), .int .i64 ((rd_T55 l0 x18_1).f0.f1), .int .i64 ((rd_T55 l0 x18_1).f0.f2), .int .i64 ((rd_T55 l0 x18_1).f1.f0), .int .i64 ((rd_T55 l0 x18_1).f1.f1), .int .i64 ((rd_T55 l0 x18_1).f1.f2), .int .i64 ((rd_T55 l0 x18_1).f2), .int .i64 ((rd_T55 l0 x18_1).f3), .int .i64 0]) ?_ 8 _ rfl; (with_reducible repeat (first | refine blk_drewN ?_ _ | refine blk_drew ?_ | refine blk_alloc ?_ _)); refine blk_put (cs := #[.int .i64 ((rd_T55 l0 x18_1).f0.f0), .int .i64 ((rd_T55 l0 x18_1).f0.f1), .int .i64 ((rd_T55 l0 x18_1).f0.f2), .int .i64 ((rd_T55 l0 x18_1).f1.f0), .int .i64 ((rd_T55 l0 x18_1).f1.f1), .int .i64 ((rd_T55 l0 x18_1).f1.f2), .int .i64 ((rd_T55 l0 x18_1).f2), .int .i64 0, .int .i64 0]) ?_ 7 _ rfl; (with_reducible repeat (first | refine blk_drewN ?_ _ | refine blk_drew ?_ | refine blk_alloc ?_ _)); refine blk_put (cs := #[.int .i64 ((rd_T55 l0 x18_1).f0.f0), .int .i64 ((rd_T55 l0 x18_1).f0.f1), .int .i64 ((rd_T55 l0 x18_1).f0.f2), .int .i64 ((rd_T55 l0 x18_1).f1.f0), .int .i64 ((rd_T55 l0 x18_1).f1.f1), .int .i64 ((rd_T55 l0 x18_1).f1.f2), .int .i64 0, .int .i64 0, .int .i64 0]) ?_ 6 _ rfl; (with_reducible repeat (first | refine blk_drewN ?_ _ | refine blk_drew ?_ | refine blk_alloc ?_ _)); refine blk_put (cs := #[.int .i64 ((rd_T55 l0 x18_1).f0.f0), .int .i64 ((rd_T55 l0 x18_1).f0.f1), .int .i64 ((rd_T55 l0 x18_1).f0.f2), .int .i64 ((rd_T55 l0 x18_1).f1.f0), .int .i64 ((rd_T55 l0 x18_1).f1.f1), .int .i64 0, .int .i64 0, .int .i64 0, .int .i64 0]) ?_ 5 _ rfl; (with_reducible repeat (first | refine blk_drewN ?_ _ | refine blk_drew ?_ | refine blk_alloc ?_ _)); refine blk_put (cs := #[.int .i64 ((rd_T55 l0 x18_1).f0.f0), .int .i64 ((rd_T55 l0 x18_1).f0.f1), .int .i64 ((rd_T55 l0 x18_1).f0.f2), .int .i64 ((rd_T55 l0 x18_1).f1.f0), .int .i64 0, .int .i64 0, .int .i64 0, .int .i64 0, .int .i64 0]) ?_ 4 _ rfl; (with_reducible repeat (first | refine blk_drewN ?_ _ | refine blk_drew ?_ | refine blk_alloc ?_ _)); refine blk_put (cs := #[.int .i64 ((rd_T55 l0 x18_1).f0.f0), .int .i64 ((rd_T55 l0 x18_1).f0.f1), .int .i64 ((rd_T55 l0 x18_1).f0.f2), .int .i64 0, .int .i64 0, .int .i64 0, .int .i64 0, .int .i64 0, .int .i64 0]) ?_ 3 _ rfl; (with_reducible repeat (first | refine blk_drewN ?_ _ | refine blk_drew ?_ | refine blk_alloc ?_ _)); refine blk_put (cs := #[.int .i64 ((rd_T55 l0 x18_1).f0.f0), .int .i64 ((rd_T55 l0 x18_1).f0.f1), .int .i64 0, .int .i64 0, .int .i64 0, .int .i64 0, .int .i64 0, .int .i64 0, .int .i64 0]) ?_ 2 _ rfl; (with_reducible repeat (first | refine blk_drewN ?_ _ | refine blk_drew ?_ | refine blk_alloc ?_ _)); refine blk_put (cs := #[.int .i64 ((rd_T55 l0 x18_1).f0.f0), .int .i64 0, .int .i64 0, .int .i64 0, .int .i64 0, .int .i64 0, .int .i64 0, .int .i64 0, .int .i64 0]) ?_ 1 _ rfl; (with_reducible repeat (first | refine blk_drewN ?_ _ | refine blk_drew ?_ | refine blk_alloc ?_ _)); refine blk_put (cs := #[.int .i64 0, .int .i64 0, .int .i64 0, .int .i64 0, .int .i64 0, .int .i64 0, .int .i64 0, .int .i64 0, .int .i64 0]) ?_ 0 _ rfl; (with_reducible repeat (first | refine blk_drewN ?_ _ | refine blk_drew ?_ | refine blk_alloc ?_ _)); exact BK159.out⟩
        have n2_ : Aside0 (Below w.heap.size w (((((((((w12.setCell ⟨gb159, 0, none⟩ (.int .i64 ((rd_T55 l0 x18_1).f0.f0))).setCell ⟨gb159, 1, none⟩ (.int .i64 ((rd_T55 l0 x18_1).f0.f1))).setCell ⟨gb159, 2, none⟩ (.int .i64 ((rd_T55 l0 x18_1).f0.f2))).setCell ⟨gb159, 3, none⟩ (.int .i64 ((rd_T55 l0 x18_1).f1.f0))).setCell ⟨gb159, 4, none⟩ (.int .i64 ((rd_T55 l0 x18_1).f1.f1))).setCell ⟨gb159, 5, none⟩ (.int .i64 ((rd_T55 l0 x18_1).f1.f2))).setCell ⟨gb159, 6, none⟩ (.int .i64 ((rd_T55 l0 x18_1).f2))).setCell ⟨gb159, 7, none⟩ (.int .i64 ((rd_T55 l0 x18_1).f3))).setCell ⟨gb159, 8, none⟩ (.int .i64 ((rd_T55 l0 x18_1).f4)))) := ⟨by repeat (first | (with_reducible first | exact HB.out | apply below_alloc | apply pw_below_drewN | apply below_drew1 | refine below_set ?_ GE156.out | refine below_set ?_ GE159.out) | exact HB.out)⟩
        (try clear BK156)
        (try clear BK159)
        (try clear HB)
        generalize (((((((((w12.setCell ⟨gb159, 0, none⟩ (.int .i64 ((rd_T55 l0 x18_1).f0.f0))).setCell ⟨gb159, 1, none⟩ (.int .i64 ((rd_T55 l0 x18_1).f0.f1))).setCell ⟨gb159, 2, none⟩ (.int .i64 ((rd_T55 l0 x18_1).f0.f2))).setCell ⟨gb159, 3, none⟩ (.int .i64 ((rd_T55 l0 x18_1).f1.f0))).setCell ⟨gb159, 4, none⟩ (.int .i64 ((rd_T55 l0 x18_1).f1.f1))).setCell ⟨gb159, 5, none⟩ (.int .i64 ((rd_T55 l0 x18_1).f1.f2))).setCell ⟨gb159, 6, none⟩ (.int .i64 ((rd_T55 l0 x18_1).f2))).setCell ⟨gb159, 7, none⟩ (.int .i64 ((rd_T55 l0 x18_1).f3))).setCell ⟨gb159, 8, none⟩ (.int .i64 ((rd_T55 l0 x18_1).f4))) = w15 at n0_ n1_ n2_ ⊢
        have BK156 := n0_
        have BK159 := n1_
        have HB := n2_
        clear n0_ n1_ n2_
        have n0_ := Aside0.mk (blk_drew BK156.out)
        have n1_ := Aside0.mk (blk_drew BK159.out)
        have n2_ := Aside0.mk (below_drew1 HB.out)
        clear BK156
        clear BK159
        clear HB
        have BK156 := n0_
        have BK159 := n1_
        have HB := n2_
        clear n0_ n1_ n2_
        refine start_ (n := 18) (S := fun w' => w'.cell? ⟨gb159, 0, none⟩ = some (.int .i64 ((rd_T55 l0 x18_1).f0.f0)) ∧ w'.cell? ⟨gb159, 1, none⟩ = some (.int .i64 ((rd_T55 l0 x18_1).f0.f1)) ∧ w'.cell? ⟨gb159, 2, none⟩ = some (.int .i64 ((rd_T55 l0 x18_1).f0.f2)) ∧ w'.cell? ⟨gb159, 3, none⟩ = some (.int .i64 ((rd_T55 l0 x18_1).f1.f0)) ∧ w'.cell? ⟨gb159, 4, none⟩ = some (.int .i64 ((rd_T55 l0 x18_1).f1.f1)) ∧ w'.cell? ⟨gb159, 5, none⟩ = some (.int .i64 ((rd_T55 l0 x18_1).f1.f2)) ∧ w'.cell? ⟨gb159, 6, none⟩ = some (.int .i64 ((rd_T55 l0 x18_1).f2)) ∧ w'.cell? ⟨gb159, 7, none⟩ = some (.int .i64 ((rd_T55 l0 x18_1).f3)) ∧ w'.cell? ⟨gb159, 8, none⟩ = some (.int .i64 ((rd_T55 l0 x18_1).f4))) (ds := []) #[false, false, false, false, false, false, false, false, false, false, false, false, false, false, false, false, false, false] (by kernel_rfl) rfl rfl ⟨(blk_cell BK159.out 0).trans rfl, (blk_cell BK159.out 1).trans rfl, (blk_cell BK159.out 2).trans rfl, (blk_cell BK159.out 3).trans rfl, (blk_cell BK159.out 4).trans rfl, (blk_cell BK159.out 5).trans rfl, (blk_cell BK159.out 6).trans rfl, (blk_cell BK159.out 7).trans rfl, (blk_cell BK159.out 8).trans rfl⟩ (fun hHeld => ?_); refine with_tabW controller_check.tab6 controller_check.bits6 (fun HT_ HW_ => ?_)
        generalize w15.drew = w16 at BK156 BK159 HB hHeld ⊢
        refine pu 0 23 (bzz 18 1) (any_of HT_.out (by kernel_rfl)) ?_
        refine ta 1 24 (bzz 18 3) (take_ofW HT_.out HW_.out (by kernel_rfl)) hHeld ?_
        refine pu 2 25 (bzz 18 7) (any_of HT_.out (by kernel_rfl)) ?_
        refine pu 3 26 (bzz 18 15) (any_of HT_.out (by kernel_rfl)) ?_
        refine po 4 27 (bzz 18 31) (any_of HT_.out (by kernel_rfl)) ?_
        refine po 5 28 (bzz 18 63) (any_of HT_.out (by kernel_rfl)) ?_
        refine po 6 29 (bzz 18 127) (any_of HT_.out (by kernel_rfl)) ?_
        refine po 7 30 (bzz 18 255) (any_of HT_.out (by kernel_rfl)) ?_
        refine po 8 31 (bzz 18 511) (any_of HT_.out (by kernel_rfl)) ?_
        refine po 9 32 (bzz 18 1023) (any_of HT_.out (by kernel_rfl)) ?_
        refine po 10 33 (bzz 18 2047) (any_of HT_.out (by kernel_rfl)) ?_
        refine po 11 34 (bzz 18 4095) (any_of HT_.out (by kernel_rfl)) ?_
        refine po 12 35 (bzz 18 8191) (any_of HT_.out (by kernel_rfl)) ?_
        refine po 13 36 (bzz 18 16383) (any_of HT_.out (by kernel_rfl)) ?_
        refine po 14 37 (bzz 18 32767) (any_of HT_.out (by kernel_rfl)) ?_
        refine po 15 38 (bzz 18 65535) (any_of HT_.out (by kernel_rfl)) ?_
        refine po 16 39 (bzz 18 131071) (any_of HT_.out (by kernel_rfl)) ?_
        refine pu 17 40 (bzz 18 262143) (any_of HT_.out (by kernel_rfl)) ?_
        refine done_ (done_of HT_.out (by kernel_rfl)) ?_
        try go_wp2
        go_ret
        exact ⟨by first | rfl | (simp [errW_none, errW_some] <;> rfl) | (simp [*, errW_none, errW_some] <;> rfl), by repeat (first | (with_reducible first | exact HB.out | apply below_alloc | apply pw_below_drewN | apply below_drew1 | refine below_set ?_ GE156.out | refine below_set ?_ GE159.out) | exact HB.out)⟩
       ·rw [if_neg c11] at H
        have c11b0 : decide (((rd_T55 l0 x18_1).f2) < 0) = false := decide_eq_false c11
        clear c11
        by_cases c17 : x18_1 > 0
        ·rw [if_pos c17] at H
         have c17b0 : decide (0 < x18_1) = true := decide_eq_true c17
         clear c17
         obtain ⟨ji18, hji18⟩ : ∃ j_ : Int, (wrap64 (x18_1 - 1)) = j_ := ⟨_, rfl⟩
         replace H : (if 0 ≤ (ji18) then (if (ji18) < (l0.length : Int) then (if (!(((rd_T55 l0 (ji18)).f1.f0) == ((rd_T55 l0 x18_1).f0.f0)) || (!(((rd_T55 l0 (ji18)).f1.f1) == ((rd_T55 l0 x18_1).f0.f1)) || (!(((rd_T55 l0 (ji18)).f1.f2) == ((rd_T55 l0 x18_1).f0.f2))))) = true then (some 1) else (controller_check.l0 k1 l0 l0 (l0.length : Int) (wrap64 (x18_1 + 1)) a1_0 a1_1 a1_2)) else (none)) else (none)) = some r := by first | (rw [hji18] at H; exact H) | (simp only [hji18] at H ⊢; exact H)
         have hji18w : (IntKind.i64.wrap (x18_1 - 1)) = ji18 := (i64_w _).trans hji18
         by_cases c19 : 0 ≤ (ji18)
         ·rw [if_pos c19] at H
          have c19b0 : decide (0 ≤ (ji18)) = true := decide_eq_true c19
          clear c19
          by_cases c20 : (ji18) < (l0.length : Int)
          ·rw [if_pos c20] at H
           have c20b0 : decide ((ji18) < (l0.length : Int)) = true := decide_eq_true c20
           clear c20
           by_cases c21 : (!(((rd_T55 l0 (ji18)).f1.f0) == ((rd_T55 l0 x18_1).f0.f0)) || (!(((rd_T55 l0 (ji18)).f1.f1) == ((rd_T55 l0 x18_1).f0.f1)) || (!(((rd_T55 l0 (ji18)).f1.f2) == ((rd_T55 l0 x18_1).f0.f2))))) = true
           ·rw [if_pos c21] at H
            have c21b0 : (!(((rd_T55 l0 (ji18)).f1.f0) == ((rd_T55 l0 x18_1).f0.f0)) || (!(((rd_T55 l0 (ji18)).f1.f1) == ((rd_T55 l0 x18_1).f0.f1)) || (!(((rd_T55 l0 (ji18)).f1.f2) == ((rd_T55 l0 x18_1).f0.f2))))) = true := c21
            clear c21
            obtain rfl := Option.some.inj H
            have p158 : 0 ≤ (x18_1 : Int) := of_decide_eq_true (by first | (with_reducible assumption) | assumption)
            have q158 : x18_1 < (l0.length : Int) := of_decide_eq_true (by first | (with_reducible assumption) | assumption)
            obtain ⟨ad158, e158, hx158_0, hx158_1, hx158_2, hx158_3, hx158_4, hx158_5, hx158_6, hx158_7, hx158_8⟩ := at_T55 HR0.out x18_1 p158 q158
            cases e158
            replace hx158_0 := (HB.out.cell (World.block_lt_of_cell? w _ hx158_0)).trans hx158_0
            replace hx158_1 := (HB.out.cell (World.block_lt_of_cell? w _ hx158_1)).trans hx158_1
            replace hx158_2 := (HB.out.cell (World.block_lt_of_cell? w _ hx158_2)).trans hx158_2
            replace hx158_3 := (HB.out.cell (World.block_lt_of_cell? w _ hx158_3)).trans hx158_3
            replace hx158_4 := (HB.out.cell (World.block_lt_of_cell? w _ hx158_4)).trans hx158_4
            replace hx158_5 := (HB.out.cell (World.block_lt_of_cell? w _ hx158_5)).trans hx158_5
            replace hx158_6 := (HB.out.cell (World.block_lt_of_cell? w _ hx158_6)).trans hx158_6
            replace hx158_7 := (HB.out.cell (World.block_lt_of_cell? w _ hx158_7)).trans hx158_7
            replace hx158_8 := (HB.out.cell (World.block_lt_of_cell? w _ hx158_8)).trans hx158_8
            replace p158 := eq_true p158
            replace q158 := eq_true q158
            try go_wp2_with (first | ((with_reducible refine gate_dst (N := 6) rfl ?_); refine box_event ?hg (N := 6) ?hd (cs := #[.int .i64 0, .int .i64 0, .int .i64 0, .int .i64 0, .int .i64 0, .int .i64 0, .int .i64 0, .int .i64 0, .int .i64 0]) (t := 55) ?hr ?_; (case hd => rfl); (case hg => rfl); (case hr => first | (go_simp; done) | (go_simp; rfl)); intro gb159 hg w22 hbox hb; have n0_ := Aside0.mk (blk_below (g := gb156) (o := .cells #[.int .i64 a1_0, .int .i64 a1_1, .int .i64 a1_2] 31 (0, 0)) (by (with_reducible repeat (first | refine blk_drewN ?_ _ | refine blk_drew ?_ | refine blk_alloc ?_ _)); exact BK156.out) hb); have n1_ := Aside0.mk (below_step (by repeat (first | (with_reducible first | exact HB.out | apply below_alloc | apply pw_below_drewN | apply below_drew1 | refine below_set ?_ GE156.out) | exact HB.out)) hb); have n2_ := Aside0.mk (hbox); have n3_ := Aside0.mk ((by rw [hg]; exact (below_size (by repeat (first | (with_reducible first | exact HB.out | apply below_alloc | apply pw_below_drewN | apply below_drew1 | refine below_set ?_ GE156.out) | exact HB.out))) : w.heap.size ≤ gb159)); have n4_ := Aside0.mk ((by rw [hg]; exact (below_size (by repeat (first | (with_reducible first | exact HB.out | apply below_alloc | apply pw_below_drewN | apply below_drew1 | refine below_set ?_ GE156.out) | exact HB.out))) : w.heap.size ≤ gb159)); have n5_ := Aside0.mk ((by rw [hg]; exact Nat.ne_of_lt (blk_lt (g := gb156) (o := .cells #[.int .i64 a1_0, .int .i64 a1_1, .int .i64 a1_2] 31 (0, 0)) (by (with_reducible repeat (first | refine blk_drewN ?_ _ | refine blk_drew ?_ | refine blk_alloc ?_ _)); exact BK156.out)) : gb156 ≠ gb159)); have n6_ := Aside0.mk ((by rw [hg]; exact Nat.ne_of_gt (blk_lt (g := gb156) (o := .cells #[.int .i64 a1_0, .int .i64 a1_1, .int .i64 a1_2] 31 (0, 0)) (by (with_reducible repeat (first | refine blk_drewN ?_ _ | refine blk_drew ?_ | refine blk_alloc ?_ _)); exact BK156.out)) : gb159 ≠ gb156)); clear BK156; clear HB; have BK156 := n0_; have HB := n1_; have BK159 := n2_; have GW159 := n3_; have GE159 := n4_; have NB156_159 := n5_; have NB159_156 := n6_; clear n0_ n1_ n2_ n3_ n4_ n5_ n6_; clear hb hbox hg; have hnb23 := NB159_156.out; have hnc23 := NB156_159.out; have hcz24_0 : w22.cell? ⟨gb159, 0, none⟩ = some (.int .i64 0) := (blk_cell BK159.out 0).trans rfl; have hcz24_1 : w22.cell? ⟨gb159, 1, none⟩ = some (.int .i64 0) := (blk_cell BK159.out 1).trans rfl; have hcz24_2 : w22.cell? ⟨gb159, 2, none⟩ = some (.int .i64 0) := (blk_cell BK159.out 2).trans rfl; have hcz24_3 : w22.cell? ⟨gb159, 3, none⟩ = some (.int .i64 0) := (blk_cell BK159.out 3).trans rfl; have hcz24_4 : w22.cell? ⟨gb159, 4, none⟩ = some (.int .i64 0) := (blk_cell BK159.out 4).trans rfl; have hcz24_5 : w22.cell? ⟨gb159, 5, none⟩ = some (.int .i64 0) := (blk_cell BK159.out 5).trans rfl; have hcz24_6 : w22.cell? ⟨gb159, 6, none⟩ = some (.int .i64 0) := (blk_cell BK159.out 6).trans rfl; have hcz24_7 : w22.cell? ⟨gb159, 7, none⟩ = some (.int .i64 0) := (blk_cell BK159.out 7).trans rfl; have hcz24_8 : w22.cell? ⟨gb159, 8, none⟩ = some (.int .i64 0) := (blk_cell BK159.out 8).trans rfl; have hfz24_0 := blk_frozen BK159.out 0; have hfz24_1 := blk_frozen BK159.out 1; have hfz24_2 := blk_frozen BK159.out 2; have hfz24_3 := blk_frozen BK159.out 3; have hfz24_4 := blk_frozen BK159.out 4; have hfz24_5 := blk_frozen BK159.out 5; have hfz24_6 := blk_frozen BK159.out 6; have hfz24_7 := blk_frozen BK159.out 7; have hfz24_8 := blk_frozen BK159.out 8))
            have n0_ : Aside0 ((((((((((w22.setCell ⟨gb159, 0, none⟩ (.int .i64 ((rd_T55 l0 x18_1).f0.f0))).setCell ⟨gb159, 1, none⟩ (.int .i64 ((rd_T55 l0 x18_1).f0.f1))).setCell ⟨gb159, 2, none⟩ (.int .i64 ((rd_T55 l0 x18_1).f0.f2))).setCell ⟨gb159, 3, none⟩ (.int .i64 ((rd_T55 l0 x18_1).f1.f0))).setCell ⟨gb159, 4, none⟩ (.int .i64 ((rd_T55 l0 x18_1).f1.f1))).setCell ⟨gb159, 5, none⟩ (.int .i64 ((rd_T55 l0 x18_1).f1.f2))).setCell ⟨gb159, 6, none⟩ (.int .i64 ((rd_T55 l0 x18_1).f2))).setCell ⟨gb159, 7, none⟩ (.int .i64 ((rd_T55 l0 x18_1).f3))).setCell ⟨gb159, 8, none⟩ (.int .i64 ((rd_T55 l0 x18_1).f4))).heap[gb156]? = some (.cells #[.int .i64 a1_0, .int .i64 a1_1, .int .i64 a1_2] 31 (0, 0))) := ⟨by (with_reducible repeat (first | refine blk_drewN ?_ _ | refine blk_drew ?_ | refine blk_alloc ?_ _)); refine blk_far ?_ NB156_159.out _; (with_reducible repeat (first | refine blk_drewN ?_ _ | refine blk_drew ?_ | refine blk_alloc ?_ _)); refine blk_far ?_ NB156_159.out _; (with_reducible repeat (first | refine blk_drewN ?_ _ | refine blk_drew ?_ | refine blk_alloc ?_ _)); refine blk_far ?_ NB156_159.out _; (with_reducible repeat (first | refine blk_drewN ?_ _ | refine blk_drew ?_ | refine blk_alloc ?_ _)); refine blk_far ?_ NB156_159.out _; (with_reducible repeat (first | refine blk_drewN ?_ _ | refine blk_drew ?_ | refine blk_alloc ?_ _)); refine blk_far ?_ NB156_159.out _; (with_reducible repeat (first | refine blk_drewN ?_ _ | refine blk_drew ?_ | refine blk_alloc ?_ _)); refine blk_far ?_ NB156_159.out _; (with_reducible repeat (first | refine blk_drewN ?_ _ | refine blk_drew ?_ | refine blk_alloc ?_ _)); refine blk_far ?_ NB156_159.out _; (with_reducible repeat (first | refine blk_drewN ?_ _ | refine blk_drew ?_ | refine blk_alloc ?_ _)); refine blk_far ?_ NB156_159.out _; (with_reducible repeat (first | refine blk_drewN ?_ _ | refine blk_drew ?_ | refine blk_alloc ?_ _)); refine blk_far ?_ NB156_159.out _; (with_reducible repeat (first | refine blk_drewN ?_ _ | refine blk_drew ?_ | refine blk_alloc ?_ _)); exact BK156.out⟩
            have n1_ : Aside0 ((((((((((w22.setCell ⟨gb159, 0, none⟩ (.int .i64 ((rd_T55 l0 x18_1).f0.f0))).setCell ⟨gb159, 1, none⟩ (.int .i64 ((rd_T55 l0 x18_1).f0.f1))).setCell ⟨gb159, 2, none⟩ (.int .i64 ((rd_T55 l0 x18_1).f0.f2))).setCell ⟨gb159, 3, none⟩ (.int .i64 ((rd_T55 l0 x18_1).f1.f0))).setCell ⟨gb159, 4, none⟩ (.int .i64 ((rd_T55 l0 x18_1).f1.f1))).setCell ⟨gb159, 5, none⟩ (.int .i64 ((rd_T55 l0 x18_1).f1.f2))).setCell ⟨gb159, 6, none⟩ (.int .i64 ((rd_T55 l0 x18_1).f2))).setCell ⟨gb159, 7, none⟩ (.int .i64 ((rd_T55 l0 x18_1).f3))).setCell ⟨gb159, 8, none⟩ (.int .i64 ((rd_T55 l0 x18_1).f4))).heap[gb159]? = some (.cells #[.int .i64 ((rd_T55 l0 x18_1).f0.f0), .int .i64 ((rd_T55 l0 x18_1).f0.f1), .int .i64 ((rd_T55 l0 x18_1).f0.f2), .int .i64 ((rd_T55 l0 x18_1).f1.f0), .int .i64 ((rd_T55 l0 x18_1).f1.f1), .int .i64 ((rd_T55 l0 x18_1).f1.f2), .int .i64 ((rd_T55 l0 x18_1).f2), .int .i64 ((rd_T55 l0 x18_1).f3), .int .i64 ((rd_T55 l0 x18_1).f4)] 55 (0, 0))) := ⟨by (with_reducible repeat (first | refine blk_drewN ?_ _ | refine blk_drew ?_ | refine blk_alloc ?_ _)); refine blk_put (cs := #[.int .i64 ((rd_T55 l0 x18_1).f0.f0), .int .i64 ((rd_T55 l0 x18_1).f0.f1), .int .i64 ((rd_T55 l0 x18_1).f0.f2), .int .i64 ((rd_T55 l0 x18_1).f1.f0), .int .i64 ((rd_T55 l0 x18_1).f1.f1), .int .i64 ((rd_T55 l0 x18_1).f1.f2), .int .i64 ((rd_T55 l0 x18_1).f2), .int .i64 ((rd_T55 l0 x18_1).f3), .int .i64 0]) ?_ 8 _ rfl; (with_reducible repeat (first | refine blk_drewN ?_ _ | refine blk_drew ?_ | refine blk_alloc ?_ _)); refine blk_put (cs := #[.int .i64 ((rd_T55 l0 x18_1).f0.f0), .int .i64 ((rd_T55 l0 x18_1).f0.f1), .int .i64 ((rd_T55 l0 x18_1).f0.f2), .int .i64 ((rd_T55 l0 x18_1).f1.f0), .int .i64 ((rd_T55 l0 x18_1).f1.f1), .int .i64 ((rd_T55 l0 x18_1).f1.f2), .int .i64 ((rd_T55 l0 x18_1).f2), .int .i64 0, .int .i64 0]) ?_ 7 _ rfl; (with_reducible repeat (first | refine blk_drewN ?_ _ | refine blk_drew ?_ | refine blk_alloc ?_ _)); refine blk_put (cs := #[.int .i64 ((rd_T55 l0 x18_1).f0.f0), .int .i64 ((rd_T55 l0 x18_1).f0.f1), .int .i64 ((rd_T55 l0 x18_1).f0.f2), .int .i64 ((rd_T55 l0 x18_1).f1.f0), .int .i64 ((rd_T55 l0 x18_1).f1.f1), .int .i64 ((rd_T55 l0 x18_1).f1.f2), .int .i64 0, .int .i64 0, .int .i64 0]) ?_ 6 _ rfl; (with_reducible repeat (first | refine blk_drewN ?_ _ | refine blk_drew ?_ | refine blk_alloc ?_ _)); refine blk_put (cs := #[.int .i64 ((rd_T55 l0 x18_1).f0.f0), .int .i64 ((rd_T55 l0 x18_1).f0.f1), .int .i64 ((rd_T55 l0 x18_1).f0.f2), .int .i64 ((rd_T55 l0 x18_1).f1.f0), .int .i64 ((rd_T55 l0 x18_1).f1.f1), .int .i64 0, .int .i64 0, .int .i64 0, .int .i64 0]) ?_ 5 _ rfl; (with_reducible repeat (first | refine blk_drewN ?_ _ | refine blk_drew ?_ | refine blk_alloc ?_ _)); refine blk_put (cs := #[.int .i64 ((rd_T55 l0 x18_1).f0.f0), .int .i64 ((rd_T55 l0 x18_1).f0.f1), .int .i64 ((rd_T55 l0 x18_1).f0.f2), .int .i64 ((rd_T55 l0 x18_1).f1.f0), .int .i64 0, .int .i64 0, .int .i64 0, .int .i64 0, .int .i64 0]) ?_ 4 _ rfl; (with_reducible repeat (first | refine blk_drewN ?_ _ | refine blk_drew ?_ | refine blk_alloc ?_ _)); refine blk_put (cs := #[.int .i64 ((rd_T55 l0 x18_1).f0.f0), .int .i64 ((rd_T55 l0 x18_1).f0.f1), .int .i64 ((rd_T55 l0 x18_1).f0.f2), .int .i64 0, .int .i64 0, .int .i64 0, .int .i64 0, .int .i64 0, .int .i64 0]) ?_ 3 _ rfl; (with_reducible repeat (first | refine blk_drewN ?_ _ | refine blk_drew ?_ | refine blk_alloc ?_ _)); refine blk_put (cs := #[.int .i64 ((rd_T55 l0 x18_1).f0.f0), .int .i64 ((rd_T55 l0 x18_1).f0.f1), .int .i64 0, .int .i64 0, .int .i64 0, .int .i64 0, .int .i64 0, .int .i64 0, .int .i64 0]) ?_ 2 _ rfl; (with_reducible repeat (first | refine blk_drewN ?_ _ | refine blk_drew ?_ | refine blk_alloc ?_ _)); refine blk_put (cs := #[.int .i64 ((rd_T55 l0 x18_1).f0.f0), .int .i64 0, .int .i64 0, .int .i64 0, .int .i64 0, .int .i64 0, .int .i64 0, .int .i64 0, .int .i64 0]) ?_ 1 _ rfl; (with_reducible repeat (first | refine blk_drewN ?_ _ | refine blk_drew ?_ | refine blk_alloc ?_ _)); refine blk_put (cs := #[.int .i64 0, .int .i64 0, .int .i64 0, .int .i64 0, .int .i64 0, .int .i64 0, .int .i64 0, .int .i64 0, .int .i64 0]) ?_ 0 _ rfl; (with_reducible repeat (first | refine blk_drewN ?_ _ | refine blk_drew ?_ | refine blk_alloc ?_ _)); exact BK159.out⟩
            have n2_ : Aside0 (Below w.heap.size w (((((((((w22.setCell ⟨gb159, 0, none⟩ (.int .i64 ((rd_T55 l0 x18_1).f0.f0))).setCell ⟨gb159, 1, none⟩ (.int .i64 ((rd_T55 l0 x18_1).f0.f1))).setCell ⟨gb159, 2, none⟩ (.int .i64 ((rd_T55 l0 x18_1).f0.f2))).setCell ⟨gb159, 3, none⟩ (.int .i64 ((rd_T55 l0 x18_1).f1.f0))).setCell ⟨gb159, 4, none⟩ (.int .i64 ((rd_T55 l0 x18_1).f1.f1))).setCell ⟨gb159, 5, none⟩ (.int .i64 ((rd_T55 l0 x18_1).f1.f2))).setCell ⟨gb159, 6, none⟩ (.int .i64 ((rd_T55 l0 x18_1).f2))).setCell ⟨gb159, 7, none⟩ (.int .i64 ((rd_T55 l0 x18_1).f3))).setCell ⟨gb159, 8, none⟩ (.int .i64 ((rd_T55 l0 x18_1).f4)))) := ⟨by repeat (first | (with_reducible first | exact HB.out | apply below_alloc | apply pw_below_drewN | apply below_drew1 | refine below_set ?_ GE156.out | refine below_set ?_ GE159.out) | exact HB.out)⟩
            (try clear BK156)
            (try clear BK159)
            (try clear HB)
            generalize (((((((((w22.setCell ⟨gb159, 0, none⟩ (.int .i64 ((rd_T55 l0 x18_1).f0.f0))).setCell ⟨gb159, 1, none⟩ (.int .i64 ((rd_T55 l0 x18_1).f0.f1))).setCell ⟨gb159, 2, none⟩ (.int .i64 ((rd_T55 l0 x18_1).f0.f2))).setCell ⟨gb159, 3, none⟩ (.int .i64 ((rd_T55 l0 x18_1).f1.f0))).setCell ⟨gb159, 4, none⟩ (.int .i64 ((rd_T55 l0 x18_1).f1.f1))).setCell ⟨gb159, 5, none⟩ (.int .i64 ((rd_T55 l0 x18_1).f1.f2))).setCell ⟨gb159, 6, none⟩ (.int .i64 ((rd_T55 l0 x18_1).f2))).setCell ⟨gb159, 7, none⟩ (.int .i64 ((rd_T55 l0 x18_1).f3))).setCell ⟨gb159, 8, none⟩ (.int .i64 ((rd_T55 l0 x18_1).f4))) = w25 at n0_ n1_ n2_ ⊢
            have BK156 := n0_
            have BK159 := n1_
            have HB := n2_
            clear n0_ n1_ n2_
            have n0_ := Aside0.mk (blk_drew BK156.out)
            have n1_ := Aside0.mk (blk_drew BK159.out)
            have n2_ := Aside0.mk (below_drew1 HB.out)
            clear BK156
            clear BK159
            clear HB
            have BK156 := n0_
            have BK159 := n1_
            have HB := n2_
            clear n0_ n1_ n2_
            have p160 : 0 ≤ ((ji18) : Int) := of_decide_eq_true (by first | (with_reducible assumption) | assumption)
            have q160 : (ji18) < (l0.length : Int) := of_decide_eq_true (by first | (with_reducible assumption) | assumption)
            obtain ⟨ad160, e160, hx160_0, hx160_1, hx160_2, hx160_3, hx160_4, hx160_5, hx160_6, hx160_7, hx160_8⟩ := at_T55 HR0.out (ji18) p160 q160
            have hw160_8 := hx160_8
            have hw160_7 := hx160_7
            have hw160_6 := hx160_6
            have hw160_5 := hx160_5
            have hw160_4 := hx160_4
            have hw160_3 := hx160_3
            have hw160_2 := hx160_2
            have hw160_1 := hx160_1
            have hw160_0 := hx160_0
            obtain rfl : ad158 = ad160 := (by injection e160)
            replace hx160_0 := (HB.out.cell (World.block_lt_of_cell? w _ hx160_0)).trans hx160_0
            replace hx160_1 := (HB.out.cell (World.block_lt_of_cell? w _ hx160_1)).trans hx160_1
            replace hx160_2 := (HB.out.cell (World.block_lt_of_cell? w _ hx160_2)).trans hx160_2
            replace hx160_3 := (HB.out.cell (World.block_lt_of_cell? w _ hx160_3)).trans hx160_3
            replace hx160_4 := (HB.out.cell (World.block_lt_of_cell? w _ hx160_4)).trans hx160_4
            replace hx160_5 := (HB.out.cell (World.block_lt_of_cell? w _ hx160_5)).trans hx160_5
            replace hx160_6 := (HB.out.cell (World.block_lt_of_cell? w _ hx160_6)).trans hx160_6
            replace hx160_7 := (HB.out.cell (World.block_lt_of_cell? w _ hx160_7)).trans hx160_7
            replace hx160_8 := (HB.out.cell (World.block_lt_of_cell? w _ hx160_8)).trans hx160_8
            replace p160 := eq_true p160
            replace q160 := eq_true q160
            refine start_ (n := 18) (S := fun w' => w'.cell? ⟨gb159, 0, none⟩ = some (.int .i64 ((rd_T55 l0 x18_1).f0.f0)) ∧ w'.cell? ⟨gb159, 1, none⟩ = some (.int .i64 ((rd_T55 l0 x18_1).f0.f1)) ∧ w'.cell? ⟨gb159, 2, none⟩ = some (.int .i64 ((rd_T55 l0 x18_1).f0.f2)) ∧ w'.cell? ⟨gb159, 3, none⟩ = some (.int .i64 ((rd_T55 l0 x18_1).f1.f0)) ∧ w'.cell? ⟨gb159, 4, none⟩ = some (.int .i64 ((rd_T55 l0 x18_1).f1.f1)) ∧ w'.cell? ⟨gb159, 5, none⟩ = some (.int .i64 ((rd_T55 l0 x18_1).f1.f2)) ∧ w'.cell? ⟨gb159, 6, none⟩ = some (.int .i64 ((rd_T55 l0 x18_1).f2)) ∧ w'.cell? ⟨gb159, 7, none⟩ = some (.int .i64 ((rd_T55 l0 x18_1).f3)) ∧ w'.cell? ⟨gb159, 8, none⟩ = some (.int .i64 ((rd_T55 l0 x18_1).f4)) ∧ w'.cell? (ad158.add (((ji18)).toNat * 9)) = some (.int .i64 ((rd_T55 l0 (ji18)).f0.f0)) ∧ w'.cell? ⟨(ad158.add (((ji18)).toNat * 9)).block, (ad158.add (((ji18)).toNat * 9)).off + 1, none⟩ = some (.int .i64 ((rd_T55 l0 (ji18)).f0.f1)) ∧ w'.cell? ⟨(ad158.add (((ji18)).toNat * 9)).block, (ad158.add (((ji18)).toNat * 9)).off + 2, none⟩ = some (.int .i64 ((rd_T55 l0 (ji18)).f0.f2)) ∧ w'.cell? ⟨(ad158.add (((ji18)).toNat * 9)).block, (ad158.add (((ji18)).toNat * 9)).off + 3, none⟩ = some (.int .i64 ((rd_T55 l0 (ji18)).f1.f0)) ∧ w'.cell? ⟨(ad158.add (((ji18)).toNat * 9)).block, (ad158.add (((ji18)).toNat * 9)).off + 4, none⟩ = some (.int .i64 ((rd_T55 l0 (ji18)).f1.f1)) ∧ w'.cell? ⟨(ad158.add (((ji18)).toNat * 9)).block, (ad158.add (((ji18)).toNat * 9)).off + 5, none⟩ = some (.int .i64 ((rd_T55 l0 (ji18)).f1.f2)) ∧ w'.cell? ⟨(ad158.add (((ji18)).toNat * 9)).block, (ad158.add (((ji18)).toNat * 9)).off + 6, none⟩ = some (.int .i64 ((rd_T55 l0 (ji18)).f2)) ∧ w'.cell? ⟨(ad158.add (((ji18)).toNat * 9)).block, (ad158.add (((ji18)).toNat * 9)).off + 7, none⟩ = some (.int .i64 ((rd_T55 l0 (ji18)).f3)) ∧ w'.cell? ⟨(ad158.add (((ji18)).toNat * 9)).block, (ad158.add (((ji18)).toNat * 9)).off + 8, none⟩ = some (.int .i64 ((rd_T55 l0 (ji18)).f4))) (ds := []) #[false, false, false, false, false, false, false, false, false, false, false, false, false, false, false, false, false, false] (by kernel_rfl) rfl rfl ⟨(blk_cell BK159.out 0).trans rfl, (blk_cell BK159.out 1).trans rfl, (blk_cell BK159.out 2).trans rfl, (blk_cell BK159.out 3).trans rfl, (blk_cell BK159.out 4).trans rfl, (blk_cell BK159.out 5).trans rfl, (blk_cell BK159.out 6).trans rfl, (blk_cell BK159.out 7).trans rfl, (blk_cell BK159.out 8).trans rfl, ((HB.out.cell (World.block_lt_of_cell? w _ hw160_0)).trans hw160_0), ((HB.out.cell (World.block_lt_of_cell? w _ hw160_1)).trans hw160_1), ((HB.out.cell (World.block_lt_of_cell? w _ hw160_2)).trans hw160_2), ((HB.out.cell (World.block_lt_of_cell? w _ hw160_3)).trans hw160_3), ((HB.out.cell (World.block_lt_of_cell? w _ hw160_4)).trans hw160_4), ((HB.out.cell (World.block_lt_of_cell? w _ hw160_5)).trans hw160_5), ((HB.out.cell (World.block_lt_of_cell? w _ hw160_6)).trans hw160_6), ((HB.out.cell (World.block_lt_of_cell? w _ hw160_7)).trans hw160_7), ((HB.out.cell (World.block_lt_of_cell? w _ hw160_8)).trans hw160_8)⟩ (fun hHeld => ?_); refine with_tabW controller_check.tab6 controller_check.bits6 (fun HT_ HW_ => ?_)
            generalize w25.drew = w26 at BK156 BK159 HB hx160_0 hx160_1 hx160_2 hx160_3 hx160_4 hx160_5 hx160_6 hx160_7 hx160_8 hHeld ⊢
            refine pu 0 23 (bzz 18 1) (any_of HT_.out (by kernel_rfl)) ?_
            refine ta 1 24 (bzz 18 3) (take_ofW HT_.out HW_.out (by kernel_rfl)) hHeld ?_
            refine pu 2 25 (bzz 18 7) (any_of HT_.out (by kernel_rfl)) ?_
            refine pu 3 26 (bzz 18 15) (any_of HT_.out (by kernel_rfl)) ?_
            refine pu 4 27 (bzz 18 31) (any_of HT_.out (by kernel_rfl)) ?_
            refine pu 5 28 (bzz 18 63) (any_of HT_.out (by kernel_rfl)) ?_
            refine pu 6 29 (bzz 18 127) (any_of HT_.out (by kernel_rfl)) ?_
            refine pu 7 30 (bzz 18 255) (any_of HT_.out (by kernel_rfl)) ?_
            refine pu 8 31 (bzz 18 511) (any_of HT_.out (by kernel_rfl)) ?_
            refine pu 9 32 (bzz 18 1023) (any_of HT_.out (by kernel_rfl)) ?_
            refine pu 10 33 (bzz 18 2047) (any_of HT_.out (by kernel_rfl)) ?_
            refine pu 11 34 (bzz 18 4095) (any_of HT_.out (by kernel_rfl)) ?_
            refine pu 13 36 (bzz 18 12287) (any_of HT_.out (by kernel_rfl)) ?_
            refine ta 12 35 (bzz 18 16383) (take_ofW HT_.out HW_.out (by kernel_rfl)) hHeld ?_
            refine ta 14 37 (bzz 18 32767) (take_ofW HT_.out HW_.out (by kernel_rfl)) hHeld ?_
            refine pu 15 38 (bzz 18 65535) (any_of HT_.out (by kernel_rfl)) ?_
            refine pu 16 39 (bzz 18 131071) (any_of HT_.out (by kernel_rfl)) ?_
            refine pu 17 40 (bzz 18 262143) (any_of HT_.out (by kernel_rfl)) ?_
            refine done_ (done_of HT_.out (by kernel_rfl)) ?_
            try go_wp2
            go_ret
            exact ⟨by first | rfl | (simp [errW_none, errW_some] <;> rfl) | (simp only [← hji18]; first | rfl | (simp [errW_none, errW_some] <;> rfl)) | (simp [*, errW_none, errW_some] <;> rfl), by repeat (first | (with_reducible first | exact HB.out | apply below_alloc | apply pw_below_drewN | apply below_drew1 | refine below_set ?_ GE156.out | refine below_set ?_ GE159.out) | exact HB.out)⟩
           ·rw [if_neg c21] at H
            have c21b0 : (!(((rd_T55 l0 (ji18)).f1.f0) == ((rd_T55 l0 x18_1).f0.f0)) || (!(((rd_T55 l0 (ji18)).f1.f1) == ((rd_T55 l0 x18_1).f0.f1)) || (!(((rd_T55 l0 (ji18)).f1.f2) == ((rd_T55 l0 x18_1).f0.f2))))) = false := by simpa using c21
            clear c21
            have H' := Aside0.mk H
            clear H
            have p158 : 0 ≤ (x18_1 : Int) := of_decide_eq_true (by first | (with_reducible assumption) | assumption)
            have q158 : x18_1 < (l0.length : Int) := of_decide_eq_true (by first | (with_reducible assumption) | assumption)
            obtain ⟨ad158, e158, hx158_0, hx158_1, hx158_2, hx158_3, hx158_4, hx158_5, hx158_6, hx158_7, hx158_8⟩ := at_T55 HR0.out x18_1 p158 q158
            cases e158
            replace hx158_0 := (HB.out.cell (World.block_lt_of_cell? w _ hx158_0)).trans hx158_0
            replace hx158_1 := (HB.out.cell (World.block_lt_of_cell? w _ hx158_1)).trans hx158_1
            replace hx158_2 := (HB.out.cell (World.block_lt_of_cell? w _ hx158_2)).trans hx158_2
            replace hx158_3 := (HB.out.cell (World.block_lt_of_cell? w _ hx158_3)).trans hx158_3
            replace hx158_4 := (HB.out.cell (World.block_lt_of_cell? w _ hx158_4)).trans hx158_4
            replace hx158_5 := (HB.out.cell (World.block_lt_of_cell? w _ hx158_5)).trans hx158_5
            replace hx158_6 := (HB.out.cell (World.block_lt_of_cell? w _ hx158_6)).trans hx158_6
            replace hx158_7 := (HB.out.cell (World.block_lt_of_cell? w _ hx158_7)).trans hx158_7
            replace hx158_8 := (HB.out.cell (World.block_lt_of_cell? w _ hx158_8)).trans hx158_8
            replace p158 := eq_true p158
            replace q158 := eq_true q158
            try go_wp2_with (first | ((with_reducible refine gate_dst (N := 6) rfl ?_); refine box_event ?hg (N := 6) ?hd (cs := #[.int .i64 0, .int .i64 0, .int .i64 0, .int .i64 0, .int .i64 0, .int .i64 0, .int .i64 0, .int .i64 0, .int .i64 0]) (t := 55) ?hr ?_; (case hd => rfl); (case hg => rfl); (case hr => first | (go_simp; done) | (go_simp; rfl)); intro gb159 hg w27 hbox hb; have n0_ := Aside0.mk (blk_below (g := gb156) (o := .cells #[.int .i64 a1_0, .int .i64 a1_1, .int .i64 a1_2] 31 (0, 0)) (by (with_reducible repeat (first | refine blk_drewN ?_ _ | refine blk_drew ?_ | refine blk_alloc ?_ _)); exact BK156.out) hb); have n1_ := Aside0.mk (below_step (by repeat (first | (with_reducible first | exact HB.out | apply below_alloc | apply pw_below_drewN | apply below_drew1 | refine below_set ?_ GE156.out) | exact HB.out)) hb); have n2_ := Aside0.mk (hbox); have n3_ := Aside0.mk ((by rw [hg]; exact (below_size (by repeat (first | (with_reducible first | exact HB.out | apply below_alloc | apply pw_below_drewN | apply below_drew1 | refine below_set ?_ GE156.out) | exact HB.out))) : w.heap.size ≤ gb159)); have n4_ := Aside0.mk ((by rw [hg]; exact (below_size (by repeat (first | (with_reducible first | exact HB.out | apply below_alloc | apply pw_below_drewN | apply below_drew1 | refine below_set ?_ GE156.out) | exact HB.out))) : w.heap.size ≤ gb159)); have n5_ := Aside0.mk ((by rw [hg]; exact Nat.ne_of_lt (blk_lt (g := gb156) (o := .cells #[.int .i64 a1_0, .int .i64 a1_1, .int .i64 a1_2] 31 (0, 0)) (by (with_reducible repeat (first | refine blk_drewN ?_ _ | refine blk_drew ?_ | refine blk_alloc ?_ _)); exact BK156.out)) : gb156 ≠ gb159)); have n6_ := Aside0.mk ((by rw [hg]; exact Nat.ne_of_gt (blk_lt (g := gb156) (o := .cells #[.int .i64 a1_0, .int .i64 a1_1, .int .i64 a1_2] 31 (0, 0)) (by (with_reducible repeat (first | refine blk_drewN ?_ _ | refine blk_drew ?_ | refine blk_alloc ?_ _)); exact BK156.out)) : gb159 ≠ gb156)); clear BK156; clear HB; have BK156 := n0_; have HB := n1_; have BK159 := n2_; have GW159 := n3_; have GE159 := n4_; have NB156_159 := n5_; have NB159_156 := n6_; clear n0_ n1_ n2_ n3_ n4_ n5_ n6_; clear hb hbox hg; have hnb28 := NB159_156.out; have hnc28 := NB156_159.out; have hcz29_0 : w27.cell? ⟨gb159, 0, none⟩ = some (.int .i64 0) := (blk_cell BK159.out 0).trans rfl; have hcz29_1 : w27.cell? ⟨gb159, 1, none⟩ = some (.int .i64 0) := (blk_cell BK159.out 1).trans rfl; have hcz29_2 : w27.cell? ⟨gb159, 2, none⟩ = some (.int .i64 0) := (blk_cell BK159.out 2).trans rfl; have hcz29_3 : w27.cell? ⟨gb159, 3, none⟩ = some (.int .i64 0) := (blk_cell BK159.out 3).trans rfl; have hcz29_4 : w27.cell? ⟨gb159, 4, none⟩ = some (.int .i64 0) := (blk_cell BK159.out 4).trans rfl; have hcz29_5 : w27.cell? ⟨gb159, 5, none⟩ = some (.int .i64 0) := (blk_cell BK159.out 5).trans rfl; have hcz29_6 : w27.cell? ⟨gb159, 6, none⟩ = some (.int .i64 0) := (blk_cell BK159.out 6).trans rfl; have hcz29_7 : w27.cell? ⟨gb159, 7, none⟩ = some (.int .i64 0) := (blk_cell BK159.out 7).trans rfl; have hcz29_8 : w27.cell? ⟨gb159, 8, none⟩ = some (.int .i64 0) := (blk_cell BK159.out 8).trans rfl; have hfz29_0 := blk_frozen BK159.out 0; have hfz29_1 := blk_frozen BK159.out 1; have hfz29_2 := blk_frozen BK159.out 2; have hfz29_3 := blk_frozen BK159.out 3; have hfz29_4 := blk_frozen BK159.out 4; have hfz29_5 := blk_frozen BK159.out 5; have hfz29_6 := blk_frozen BK159.out 6; have hfz29_7 := blk_frozen BK159.out 7; have hfz29_8 := blk_frozen BK159.out 8))
            have n0_ : Aside0 ((((((((((w27.setCell ⟨gb159, 0, none⟩ (.int .i64 ((rd_T55 l0 x18_1).f0.f0))).setCell ⟨gb159, 1, none⟩ (.int .i64 ((rd_T55 l0 x18_1).f0.f1))).setCell ⟨gb159, 2, none⟩ (.int .i64 ((rd_T55 l0 x18_1).f0.f2))).setCell ⟨gb159, 3, none⟩ (.int .i64 ((rd_T55 l0 x18_1).f1.f0))).setCell ⟨gb159, 4, none⟩ (.int .i64 ((rd_T55 l0 x18_1).f1.f1))).setCell ⟨gb159, 5, none⟩ (.int .i64 ((rd_T55 l0 x18_1).f1.f2))).setCell ⟨gb159, 6, none⟩ (.int .i64 ((rd_T55 l0 x18_1).f2))).setCell ⟨gb159, 7, none⟩ (.int .i64 ((rd_T55 l0 x18_1).f3))).setCell ⟨gb159, 8, none⟩ (.int .i64 ((rd_T55 l0 x18_1).f4))).heap[gb156]? = some (.cells #[.int .i64 a1_0, .int .i64 a1_1, .int .i64 a1_2] 31 (0, 0))) := ⟨by (with_reducible repeat (first | refine blk_drewN ?_ _ | refine blk_drew ?_ | refine blk_alloc ?_ _)); refine blk_far ?_ NB156_159.out _; (with_reducible repeat (first | refine blk_drewN ?_ _ | refine blk_drew ?_ | refine blk_alloc ?_ _)); refine blk_far ?_ NB156_159.out _; (with_reducible repeat (first | refine blk_drewN ?_ _ | refine blk_drew ?_ | refine blk_alloc ?_ _)); refine blk_far ?_ NB156_159.out _; (with_reducible repeat (first | refine blk_drewN ?_ _ | refine blk_drew ?_ | refine blk_alloc ?_ _)); refine blk_far ?_ NB156_159.out _; (with_reducible repeat (first | refine blk_drewN ?_ _ | refine blk_drew ?_ | refine blk_alloc ?_ _)); refine blk_far ?_ NB156_159.out _; (with_reducible repeat (first | refine blk_drewN ?_ _ | refine blk_drew ?_ | refine blk_alloc ?_ _)); refine blk_far ?_ NB156_159.out _; (with_reducible repeat (first | refine blk_drewN ?_ _ | refine blk_drew ?_ | refine blk_alloc ?_ _)); refine blk_far ?_ NB156_159.out _; (with_reducible repeat (first | refine blk_drewN ?_ _ | refine blk_drew ?_ | refine blk_alloc ?_ _)); refine blk_far ?_ NB156_159.out _; (with_reducible repeat (first | refine blk_drewN ?_ _ | refine blk_drew ?_ | refine blk_alloc ?_ _)); refine blk_far ?_ NB156_159.out _; (with_reducible repeat (first | refine blk_drewN ?_ _ | refine blk_drew ?_ | refine blk_alloc ?_ _)); exact BK156.out⟩
            have n1_ : Aside0 ((((((((((w27.setCell ⟨gb159, 0, none⟩ (.int .i64 ((rd_T55 l0 x18_1).f0.f0))).setCell ⟨gb159, 1, none⟩ (.int .i64 ((rd_T55 l0 x18_1).f0.f1))).setCell ⟨gb159, 2, none⟩ (.int .i64 ((rd_T55 l0 x18_1).f0.f2))).setCell ⟨gb159, 3, none⟩ (.int .i64 ((rd_T55 l0 x18_1).f1.f0))).setCell ⟨gb159, 4, none⟩ (.int .i64 ((rd_T55 l0 x18_1).f1.f1))).setCell ⟨gb159, 5, none⟩ (.int .i64 ((rd_T55 l0 x18_1).f1.f2))).setCell ⟨gb159, 6, none⟩ (.int .i64 ((rd_T55 l0 x18_1).f2))).setCell ⟨gb159, 7, none⟩ (.int .i64 ((rd_T55 l0 x18_1).f3))).setCell ⟨gb159, 8, none⟩ (.int .i64 ((rd_T55 l0 x18_1).f4))).heap[gb159]? = some (.cells #[.int .i64 ((rd_T55 l0 x18_1).f0.f0), .int .i64 ((rd_T55 l0 x18_1).f0.f1), .int .i64 ((rd_T55 l0 x18_1).f0.f2), .int .i64 ((rd_T55 l0 x18_1).f1.f0), .int .i64 ((rd_T55 l0 x18_1).f1.f1), .int .i64 ((rd_T55 l0 x18_1).f1.f2), .int .i64 ((rd_T55 l0 x18_1).f2), .int .i64 ((rd_T55 l0 x18_1).f3), .int .i64 ((rd_T55 l0 x18_1).f4)] 55 (0, 0))) := ⟨by (with_reducible repeat (first | refine blk_drewN ?_ _ | refine blk_drew ?_ | refine blk_alloc ?_ _)); refine blk_put (cs := #[.int .i64 ((rd_T55 l0 x18_1).f0.f0), .int .i64 ((rd_T55 l0 x18_1).f0.f1), .int .i64 ((rd_T55 l0 x18_1).f0.f2), .int .i64 ((rd_T55 l0 x18_1).f1.f0), .int .i64 ((rd_T55 l0 x18_1).f1.f1), .int .i64 ((rd_T55 l0 x18_1).f1.f2), .int .i64 ((rd_T55 l0 x18_1).f2), .int .i64 ((rd_T55 l0 x18_1).f3), .int .i64 0]) ?_ 8 _ rfl; (with_reducible repeat (first | refine blk_drewN ?_ _ | refine blk_drew ?_ | refine blk_alloc ?_ _)); refine blk_put (cs := #[.int .i64 ((rd_T55 l0 x18_1).f0.f0), .int .i64 ((rd_T55 l0 x18_1).f0.f1), .int .i64 ((rd_T55 l0 x18_1).f0.f2), .int .i64 ((rd_T55 l0 x18_1).f1.f0), .int .i64 ((rd_T55 l0 x18_1).f1.f1), .int .i64 ((rd_T55 l0 x18_1).f1.f2), .int .i64 ((rd_T55 l0 x18_1).f2), .int .i64 0, .int .i64 0]) ?_ 7 _ rfl; (with_reducible repeat (first | refine blk_drewN ?_ _ | refine blk_drew ?_ | refine blk_alloc ?_ _)); refine blk_put (cs := #[.int .i64 ((rd_T55 l0 x18_1).f0.f0), .int .i64 ((rd_T55 l0 x18_1).f0.f1), .int .i64 ((rd_T55 l0 x18_1).f0.f2), .int .i64 ((rd_T55 l0 x18_1).f1.f0), .int .i64 ((rd_T55 l0 x18_1).f1.f1), .int .i64 ((rd_T55 l0 x18_1).f1.f2), .int .i64 0, .int .i64 0, .int .i64 0]) ?_ 6 _ rfl; (with_reducible repeat (first | refine blk_drewN ?_ _ | refine blk_drew ?_ | refine blk_alloc ?_ _)); refine blk_put (cs := #[.int .i64 ((rd_T55 l0 x18_1).f0.f0), .int .i64 ((rd_T55 l0 x18_1).f0.f1), .int .i64 ((rd_T55 l0 x18_1).f0.f2), .int .i64 ((rd_T55 l0 x18_1).f1.f0), .int .i64 ((rd_T55 l0 x18_1).f1.f1), .int .i64 0, .int .i64 0, .int .i64 0, .int .i64 0]) ?_ 5 _ rfl; (with_reducible repeat (first | refine blk_drewN ?_ _ | refine blk_drew ?_ | refine blk_alloc ?_ _)); refine blk_put (cs := #[.int .i64 ((rd_T55 l0 x18_1).f0.f0), .int .i64 ((rd_T55 l0 x18_1).f0.f1), .int .i64 ((rd_T55 l0 x18_1).f0.f2), .int .i64 ((rd_T55 l0 x18_1).f1.f0), .int .i64 0, .int .i64 0, .int .i64 0, .int .i64 0, .int .i64 0]) ?_ 4 _ rfl; (with_reducible repeat (first | refine blk_drewN ?_ _ | refine blk_drew ?_ | refine blk_alloc ?_ _)); refine blk_put (cs := #[.int .i64 ((rd_T55 l0 x18_1).f0.f0), .int .i64 ((rd_T55 l0 x18_1).f0.f1), .int .i64 ((rd_T55 l0 x18_1).f0.f2), .int .i64 0, .int .i64 0, .int .i64 0, .int .i64 0, .int .i64 0, .int .i64 0]) ?_ 3 _ rfl; (with_reducible repeat (first | refine blk_drewN ?_ _ | refine blk_drew ?_ | refine blk_alloc ?_ _)); refine blk_put (cs := #[.int .i64 ((rd_T55 l0 x18_1).f0.f0), .int .i64 ((rd_T55 l0 x18_1).f0.f1), .int .i64 0, .int .i64 0, .int .i64 0, .int .i64 0, .int .i64 0, .int .i64 0, .int .i64 0]) ?_ 2 _ rfl; (with_reducible repeat (first | refine blk_drewN ?_ _ | refine blk_drew ?_ | refine blk_alloc ?_ _)); refine blk_put (cs := #[.int .i64 ((rd_T55 l0 x18_1).f0.f0), .int .i64 0, .int .i64 0, .int .i64 0, .int .i64 0, .int .i64 0, .int .i64 0, .int .i64 0, .int .i64 0]) ?_ 1 _ rfl; (with_reducible repeat (first | refine blk_drewN ?_ _ | refine blk_drew ?_ | refine blk_alloc ?_ _)); refine blk_put (cs := #[.int .i64 0, .int .i64 0, .int .i64 0, .int .i64 0, .int .i64 0, .int .i64 0, .int .i64 0, .int .i64 0, .int .i64 0]) ?_ 0 _ rfl; (with_reducible repeat (first | refine blk_drewN ?_ _ | refine blk_drew ?_ | refine blk_alloc ?_ _)); exact BK159.out⟩
            have n2_ : Aside0 (Below w.heap.size w (((((((((w27.setCell ⟨gb159, 0, none⟩ (.int .i64 ((rd_T55 l0 x18_1).f0.f0))).setCell ⟨gb159, 1, none⟩ (.int .i64 ((rd_T55 l0 x18_1).f0.f1))).setCell ⟨gb159, 2, none⟩ (.int .i64 ((rd_T55 l0 x18_1).f0.f2))).setCell ⟨gb159, 3, none⟩ (.int .i64 ((rd_T55 l0 x18_1).f1.f0))).setCell ⟨gb159, 4, none⟩ (.int .i64 ((rd_T55 l0 x18_1).f1.f1))).setCell ⟨gb159, 5, none⟩ (.int .i64 ((rd_T55 l0 x18_1).f1.f2))).setCell ⟨gb159, 6, none⟩ (.int .i64 ((rd_T55 l0 x18_1).f2))).setCell ⟨gb159, 7, none⟩ (.int .i64 ((rd_T55 l0 x18_1).f3))).setCell ⟨gb159, 8, none⟩ (.int .i64 ((rd_T55 l0 x18_1).f4)))) := ⟨by repeat (first | (with_reducible first | exact HB.out | apply below_alloc | apply pw_below_drewN | apply below_drew1 | refine below_set ?_ GE156.out | refine below_set ?_ GE159.out) | exact HB.out)⟩
            (try clear BK156)
            (try clear BK159)
            (try clear HB)
            generalize (((((((((w27.setCell ⟨gb159, 0, none⟩ (.int .i64 ((rd_T55 l0 x18_1).f0.f0))).setCell ⟨gb159, 1, none⟩ (.int .i64 ((rd_T55 l0 x18_1).f0.f1))).setCell ⟨gb159, 2, none⟩ (.int .i64 ((rd_T55 l0 x18_1).f0.f2))).setCell ⟨gb159, 3, none⟩ (.int .i64 ((rd_T55 l0 x18_1).f1.f0))).setCell ⟨gb159, 4, none⟩ (.int .i64 ((rd_T55 l0 x18_1).f1.f1))).setCell ⟨gb159, 5, none⟩ (.int .i64 ((rd_T55 l0 x18_1).f1.f2))).setCell ⟨gb159, 6, none⟩ (.int .i64 ((rd_T55 l0 x18_1).f2))).setCell ⟨gb159, 7, none⟩ (.int .i64 ((rd_T55 l0 x18_1).f3))).setCell ⟨gb159, 8, none⟩ (.int .i64 ((rd_T55 l0 x18_1).f4))) = w30 at n0_ n1_ n2_ ⊢
            have BK156 := n0_
            have BK159 := n1_
            have HB := n2_
            clear n0_ n1_ n2_
            have n0_ := Aside0.mk (blk_drew BK156.out)
            have n1_ := Aside0.mk (blk_drew BK159.out)
            have n2_ := Aside0.mk (below_drew1 HB.out)
            clear BK156
            clear BK159
            clear HB
            have BK156 := n0_
            have BK159 := n1_
            have HB := n2_
            clear n0_ n1_ n2_
            have p160 : 0 ≤ ((ji18) : Int) := of_decide_eq_true (by first | (with_reducible assumption) | assumption)
            have q160 : (ji18) < (l0.length : Int) := of_decide_eq_true (by first | (with_reducible assumption) | assumption)
            obtain ⟨ad160, e160, hx160_0, hx160_1, hx160_2, hx160_3, hx160_4, hx160_5, hx160_6, hx160_7, hx160_8⟩ := at_T55 HR0.out (ji18) p160 q160
            have hw160_8 := hx160_8
            have hw160_7 := hx160_7
            have hw160_6 := hx160_6
            have hw160_5 := hx160_5
            have hw160_4 := hx160_4
            have hw160_3 := hx160_3
            have hw160_2 := hx160_2
            have hw160_1 := hx160_1
            have hw160_0 := hx160_0
            obtain rfl : ad158 = ad160 := (by injection e160)
            replace hx160_0 := (HB.out.cell (World.block_lt_of_cell? w _ hx160_0)).trans hx160_0
            replace hx160_1 := (HB.out.cell (World.block_lt_of_cell? w _ hx160_1)).trans hx160_1
            replace hx160_2 := (HB.out.cell (World.block_lt_of_cell? w _ hx160_2)).trans hx160_2
            replace hx160_3 := (HB.out.cell (World.block_lt_of_cell? w _ hx160_3)).trans hx160_3
            replace hx160_4 := (HB.out.cell (World.block_lt_of_cell? w _ hx160_4)).trans hx160_4
            replace hx160_5 := (HB.out.cell (World.block_lt_of_cell? w _ hx160_5)).trans hx160_5
            replace hx160_6 := (HB.out.cell (World.block_lt_of_cell? w _ hx160_6)).trans hx160_6
            replace hx160_7 := (HB.out.cell (World.block_lt_of_cell? w _ hx160_7)).trans hx160_7
            replace hx160_8 := (HB.out.cell (World.block_lt_of_cell? w _ hx160_8)).trans hx160_8
            replace p160 := eq_true p160
            replace q160 := eq_true q160
            refine start_ (n := 18) (S := fun w' => w'.cell? ⟨gb159, 0, none⟩ = some (.int .i64 ((rd_T55 l0 x18_1).f0.f0)) ∧ w'.cell? ⟨gb159, 1, none⟩ = some (.int .i64 ((rd_T55 l0 x18_1).f0.f1)) ∧ w'.cell? ⟨gb159, 2, none⟩ = some (.int .i64 ((rd_T55 l0 x18_1).f0.f2)) ∧ w'.cell? ⟨gb159, 3, none⟩ = some (.int .i64 ((rd_T55 l0 x18_1).f1.f0)) ∧ w'.cell? ⟨gb159, 4, none⟩ = some (.int .i64 ((rd_T55 l0 x18_1).f1.f1)) ∧ w'.cell? ⟨gb159, 5, none⟩ = some (.int .i64 ((rd_T55 l0 x18_1).f1.f2)) ∧ w'.cell? ⟨gb159, 6, none⟩ = some (.int .i64 ((rd_T55 l0 x18_1).f2)) ∧ w'.cell? ⟨gb159, 7, none⟩ = some (.int .i64 ((rd_T55 l0 x18_1).f3)) ∧ w'.cell? ⟨gb159, 8, none⟩ = some (.int .i64 ((rd_T55 l0 x18_1).f4)) ∧ w'.cell? (ad158.add (((ji18)).toNat * 9)) = some (.int .i64 ((rd_T55 l0 (ji18)).f0.f0)) ∧ w'.cell? ⟨(ad158.add (((ji18)).toNat * 9)).block, (ad158.add (((ji18)).toNat * 9)).off + 1, none⟩ = some (.int .i64 ((rd_T55 l0 (ji18)).f0.f1)) ∧ w'.cell? ⟨(ad158.add (((ji18)).toNat * 9)).block, (ad158.add (((ji18)).toNat * 9)).off + 2, none⟩ = some (.int .i64 ((rd_T55 l0 (ji18)).f0.f2)) ∧ w'.cell? ⟨(ad158.add (((ji18)).toNat * 9)).block, (ad158.add (((ji18)).toNat * 9)).off + 3, none⟩ = some (.int .i64 ((rd_T55 l0 (ji18)).f1.f0)) ∧ w'.cell? ⟨(ad158.add (((ji18)).toNat * 9)).block, (ad158.add (((ji18)).toNat * 9)).off + 4, none⟩ = some (.int .i64 ((rd_T55 l0 (ji18)).f1.f1)) ∧ w'.cell? ⟨(ad158.add (((ji18)).toNat * 9)).block, (ad158.add (((ji18)).toNat * 9)).off + 5, none⟩ = some (.int .i64 ((rd_T55 l0 (ji18)).f1.f2)) ∧ w'.cell? ⟨(ad158.add (((ji18)).toNat * 9)).block, (ad158.add (((ji18)).toNat * 9)).off + 6, none⟩ = some (.int .i64 ((rd_T55 l0 (ji18)).f2)) ∧ w'.cell? ⟨(ad158.add (((ji18)).toNat * 9)).block, (ad158.add (((ji18)).toNat * 9)).off + 7, none⟩ = some (.int .i64 ((rd_T55 l0 (ji18)).f3)) ∧ w'.cell? ⟨(ad158.add (((ji18)).toNat * 9)).block, (ad158.add (((ji18)).toNat * 9)).off + 8, none⟩ = some (.int .i64 ((rd_T55 l0 (ji18)).f4))) (ds := []) #[false, false, false, false, false, false, false, false, false, false, false, false, false, false, false, false, false, false] (by kernel_rfl) rfl rfl ⟨(blk_cell BK159.out 0).trans rfl, (blk_cell BK159.out 1).trans rfl, (blk_cell BK159.out 2).trans rfl, (blk_cell BK159.out 3).trans rfl, (blk_cell BK159.out 4).trans rfl, (blk_cell BK159.out 5).trans rfl, (blk_cell BK159.out 6).trans rfl, (blk_cell BK159.out 7).trans rfl, (blk_cell BK159.out 8).trans rfl, ((HB.out.cell (World.block_lt_of_cell? w _ hw160_0)).trans hw160_0), ((HB.out.cell (World.block_lt_of_cell? w _ hw160_1)).trans hw160_1), ((HB.out.cell (World.block_lt_of_cell? w _ hw160_2)).trans hw160_2), ((HB.out.cell (World.block_lt_of_cell? w _ hw160_3)).trans hw160_3), ((HB.out.cell (World.block_lt_of_cell? w _ hw160_4)).trans hw160_4), ((HB.out.cell (World.block_lt_of_cell? w _ hw160_5)).trans hw160_5), ((HB.out.cell (World.block_lt_of_cell? w _ hw160_6)).trans hw160_6), ((HB.out.cell (World.block_lt_of_cell? w _ hw160_7)).trans hw160_7), ((HB.out.cell (World.block_lt_of_cell? w _ hw160_8)).trans hw160_8)⟩ (fun hHeld => ?_); refine with_tabW controller_check.tab6 controller_check.bits6 (fun HT_ HW_ => ?_)
            generalize w30.drew = w31 at BK156 BK159 HB hx160_0 hx160_1 hx160_2 hx160_3 hx160_4 hx160_5 hx160_6 hx160_7 hx160_8 hHeld ⊢
            refine pu 0 23 (bzz 18 1) (any_of HT_.out (by kernel_rfl)) ?_
            refine ta 1 24 (bzz 18 3) (take_ofW HT_.out HW_.out (by kernel_rfl)) hHeld ?_
            refine pu 2 25 (bzz 18 7) (any_of HT_.out (by kernel_rfl)) ?_
            refine pu 3 26 (bzz 18 15) (any_of HT_.out (by kernel_rfl)) ?_
            refine pu 4 27 (bzz 18 31) (any_of HT_.out (by kernel_rfl)) ?_
            refine pu 5 28 (bzz 18 63) (any_of HT_.out (by kernel_rfl)) ?_
            refine pu 6 29 (bzz 18 127) (any_of HT_.out (by kernel_rfl)) ?_
            refine pu 7 30 (bzz 18 255) (any_of HT_.out (by kernel_rfl)) ?_
            refine pu 8 31 (bzz 18 511) (any_of HT_.out (by kernel_rfl)) ?_
            refine pu 9 32 (bzz 18 1023) (any_of HT_.out (by kernel_rfl)) ?_
            refine pu 10 33 (bzz 18 2047) (any_of HT_.out (by kernel_rfl)) ?_
            refine pu 11 34 (bzz 18 4095) (any_of HT_.out (by kernel_rfl)) ?_
            refine pu 13 36 (bzz 18 12287) (any_of HT_.out (by kernel_rfl)) ?_
            refine ta 12 35 (bzz 18 16383) (take_ofW HT_.out HW_.out (by kernel_rfl)) hHeld ?_
            refine ta 14 37 (bzz 18 32767) (take_ofW HT_.out HW_.out (by kernel_rfl)) hHeld ?_
            refine pu 15 38 (bzz 18 65535) (any_of HT_.out (by kernel_rfl)) ?_
            refine pu 16 39 (bzz 18 131071) (any_of HT_.out (by kernel_rfl)) ?_
            refine pu 17 40 (bzz 18 262143) (any_of HT_.out (by kernel_rfl)) ?_
            refine done_ (done_of HT_.out (by kernel_rfl)) ?_
            try go_wp2
            go_roundg k1
            case measure => have := HK1.out; omega
            case rel => exact ⟨(wrap64 (x18_1 + 1)), (by first | rfl | (simp; done) | (simp [*]; done)), H', ⟨by have := HK1.out; omega⟩, ⟨by (with_reducible repeat (first | refine blk_drewN ?_ _ | refine blk_drew ?_ | refine blk_alloc ?_ _)); exact BK156.out⟩, ⟨by repeat (first | (with_reducible first | exact HB.out | apply below_alloc | apply pw_below_drewN | apply below_drew1 | refine below_set ?_ GE156.out | refine below_set ?_ GE159.out) | exact HB.out)⟩⟩
          ·rw [if_neg c20] at H
           exact absurd H (by simp)
         ·rw [if_neg c19] at H
          exact absurd H (by simp)
        ·rw [if_neg c17] at H
         have c17b0 : decide (0 < x18_1) = false := decide_eq_false c17
         clear c17
         have H' := Aside0.mk H
         clear H
         have p158 : 0 ≤ (x18_1 : Int) := of_decide_eq_true (by first | (with_reducible assumption) | assumption)
         have q158 : x18_1 < (l0.length : Int) := of_decide_eq_true (by first | (with_reducible assumption) | assumption)
         obtain ⟨ad158, e158, hx158_0, hx158_1, hx158_2, hx158_3, hx158_4, hx158_5, hx158_6, hx158_7, hx158_8⟩ := at_T55 HR0.out x18_1 p158 q158
         cases e158
         replace hx158_0 := (HB.out.cell (World.block_lt_of_cell? w _ hx158_0)).trans hx158_0
         replace hx158_1 := (HB.out.cell (World.block_lt_of_cell? w _ hx158_1)).trans hx158_1
         replace hx158_2 := (HB.out.cell (World.block_lt_of_cell? w _ hx158_2)).trans hx158_2
         replace hx158_3 := (HB.out.cell (World.block_lt_of_cell? w _ hx158_3)).trans hx158_3
         replace hx158_4 := (HB.out.cell (World.block_lt_of_cell? w _ hx158_4)).trans hx158_4
         replace hx158_5 := (HB.out.cell (World.block_lt_of_cell? w _ hx158_5)).trans hx158_5
         replace hx158_6 := (HB.out.cell (World.block_lt_of_cell? w _ hx158_6)).trans hx158_6
         replace hx158_7 := (HB.out.cell (World.block_lt_of_cell? w _ hx158_7)).trans hx158_7
         replace hx158_8 := (HB.out.cell (World.block_lt_of_cell? w _ hx158_8)).trans hx158_8
         replace p158 := eq_true p158
         replace q158 := eq_true q158
         try go_wp2_with (first | ((with_reducible refine gate_dst (N := 6) rfl ?_); refine box_event ?hg (N := 6) ?hd (cs := #[.int .i64 0, .int .i64 0, .int .i64 0, .int .i64 0, .int .i64 0, .int .i64 0, .int .i64 0, .int .i64 0, .int .i64 0]) (t := 55) ?hr ?_; (case hd => rfl); (case hg => rfl); (case hr => first | (go_simp; done) | (go_simp; rfl)); intro gb159 hg w32 hbox hb; have n0_ := Aside0.mk (blk_below (g := gb156) (o := .cells #[.int .i64 a1_0, .int .i64 a1_1, .int .i64 a1_2] 31 (0, 0)) (by (with_reducible repeat (first | refine blk_drewN ?_ _ | refine blk_drew ?_ | refine blk_alloc ?_ _)); exact BK156.out) hb); have n1_ := Aside0.mk (below_step (by repeat (first | (with_reducible first | exact HB.out | apply below_alloc | apply pw_below_drewN | apply below_drew1 | refine below_set ?_ GE156.out) | exact HB.out)) hb); have n2_ := Aside0.mk (hbox); have n3_ := Aside0.mk ((by rw [hg]; exact (below_size (by repeat (first | (with_reducible first | exact HB.out | apply below_alloc | apply pw_below_drewN | apply below_drew1 | refine below_set ?_ GE156.out) | exact HB.out))) : w.heap.size ≤ gb159)); have n4_ := Aside0.mk ((by rw [hg]; exact (below_size (by repeat (first | (with_reducible first | exact HB.out | apply below_alloc | apply pw_below_drewN | apply below_drew1 | refine below_set ?_ GE156.out) | exact HB.out))) : w.heap.size ≤ gb159)); have n5_ := Aside0.mk ((by rw [hg]; exact Nat.ne_of_lt (blk_lt (g := gb156) (o := .cells #[.int .i64 a1_0, .int .i64 a1_1, .int .i64 a1_2] 31 (0, 0)) (by (with_reducible repeat (first | refine blk_drewN ?_ _ | refine blk_drew ?_ | refine blk_alloc ?_ _)); exact BK156.out)) : gb156 ≠ gb159)); have n6_ := Aside0.mk ((by rw [hg]; exact Nat.ne_of_gt (blk_lt (g := gb156) (o := .cells #[.int .i64 a1_0, .int .i64 a1_1, .int .i64 a1_2] 31 (0, 0)) (by (with_reducible repeat (first | refine blk_drewN ?_ _ | refine blk_drew ?_ | refine blk_alloc ?_ _)); exact BK156.out)) : gb159 ≠ gb156)); clear BK156; clear HB; have BK156 := n0_; have HB := n1_; have BK159 := n2_; have GW159 := n3_; have GE159 := n4_; have NB156_159 := n5_; have NB159_156 := n6_; clear n0_ n1_ n2_ n3_ n4_ n5_ n6_; clear hb hbox hg; have hnb33 := NB159_156.out; have hnc33 := NB156_159.out; have hcz34_0 : w32.cell? ⟨gb159, 0, none⟩ = some (.int .i64 0) := (blk_cell BK159.out 0).trans rfl; have hcz34_1 : w32.cell? ⟨gb159, 1, none⟩ = some (.int .i64 0) := (blk_cell BK159.out 1).trans rfl; have hcz34_2 : w32.cell? ⟨gb159, 2, none⟩ = some (.int .i64 0) := (blk_cell BK159.out 2).trans rfl; have hcz34_3 : w32.cell? ⟨gb159, 3, none⟩ = some (.int .i64 0) := (blk_cell BK159.out 3).trans rfl; have hcz34_4 : w32.cell? ⟨gb159, 4, none⟩ = some (.int .i64 0) := (blk_cell BK159.out 4).trans rfl; have hcz34_5 : w32.cell? ⟨gb159, 5, none⟩ = some (.int .i64 0) := (blk_cell BK159.out 5).trans rfl; have hcz34_6 : w32.cell? ⟨gb159, 6, none⟩ = some (.int .i64 0) := (blk_cell BK159.out 6).trans rfl; have hcz34_7 : w32.cell? ⟨gb159, 7, none⟩ = some (.int .i64 0) := (blk_cell BK159.out 7).trans rfl; have hcz34_8 : w32.cell? ⟨gb159, 8, none⟩ = some (.int .i64 0) := (blk_cell BK159.out 8).trans rfl; have hfz34_0 := blk_frozen BK159.out 0; have hfz34_1 := blk_frozen BK159.out 1; have hfz34_2 := blk_frozen BK159.out 2; have hfz34_3 := blk_frozen BK159.out 3; have hfz34_4 := blk_frozen BK159.out 4; have hfz34_5 := blk_frozen BK159.out 5; have hfz34_6 := blk_frozen BK159.out 6; have hfz34_7 := blk_frozen BK159.out 7; have hfz34_8 := blk_frozen BK159.out 8))
         have n0_ : Aside0 ((((((((((w32.setCell ⟨gb159, 0, none⟩ (.int .i64 ((rd_T55 l0 x18_1).f0.f0))).setCell ⟨gb159, 1, none⟩ (.int .i64 ((rd_T55 l0 x18_1).f0.f1))).setCell ⟨gb159, 2, none⟩ (.int .i64 ((rd_T55 l0 x18_1).f0.f2))).setCell ⟨gb159, 3, none⟩ (.int .i64 ((rd_T55 l0 x18_1).f1.f0))).setCell ⟨gb159, 4, none⟩ (.int .i64 ((rd_T55 l0 x18_1).f1.f1))).setCell ⟨gb159, 5, none⟩ (.int .i64 ((rd_T55 l0 x18_1).f1.f2))).setCell ⟨gb159, 6, none⟩ (.int .i64 ((rd_T55 l0 x18_1).f2))).setCell ⟨gb159, 7, none⟩ (.int .i64 ((rd_T55 l0 x18_1).f3))).setCell ⟨gb159, 8, none⟩ (.int .i64 ((rd_T55 l0 x18_1).f4))).heap[gb156]? = some (.cells #[.int .i64 a1_0, .int .i64 a1_1, .int .i64 a1_2] 31 (0, 0))) := ⟨by (with_reducible repeat (first | refine blk_drewN ?_ _ | refine blk_drew ?_ | refine blk_alloc ?_ _)); refine blk_far ?_ NB156_159.out _; (with_reducible repeat (first | refine blk_drewN ?_ _ | refine blk_drew ?_ | refine blk_alloc ?_ _)); refine blk_far ?_ NB156_159.out _; (with_reducible repeat (first | refine blk_drewN ?_ _ | refine blk_drew ?_ | refine blk_alloc ?_ _)); refine blk_far ?_ NB156_159.out _; (with_reducible repeat (first | refine blk_drewN ?_ _ | refine blk_drew ?_ | refine blk_alloc ?_ _)); refine blk_far ?_ NB156_159.out _; (with_reducible repeat (first | refine blk_drewN ?_ _ | refine blk_drew ?_ | refine blk_alloc ?_ _)); refine blk_far ?_ NB156_159.out _; (with_reducible repeat (first | refine blk_drewN ?_ _ | refine blk_drew ?_ | refine blk_alloc ?_ _)); refine blk_far ?_ NB156_159.out _; (with_reducible repeat (first | refine blk_drewN ?_ _ | refine blk_drew ?_ | refine blk_alloc ?_ _)); refine blk_far ?_ NB156_159.out _; (with_reducible repeat (first | refine blk_drewN ?_ _ | refine blk_drew ?_ | refine blk_alloc ?_ _)); refine blk_far ?_ NB156_159.out _; (with_reducible repeat (first | refine blk_drewN ?_ _ | refine blk_drew ?_ | refine blk_alloc ?_ _)); refine blk_far ?_ NB156_159.out _; (with_reducible repeat (first | refine blk_drewN ?_ _ | refine blk_drew ?_ | refine blk_alloc ?_ _)); exact BK156.out⟩
         have n1_ : Aside0 ((((((((((w32.setCell ⟨gb159, 0, none⟩ (.int .i64 ((rd_T55 l0 x18_1).f0.f0))).setCell ⟨gb159, 1, none⟩ (.int .i64 ((rd_T55 l0 x18_1).f0.f1))).setCell ⟨gb159, 2, none⟩ (.int .i64 ((rd_T55 l0 x18_1).f0.f2))).setCell ⟨gb159, 3, none⟩ (.int .i64 ((rd_T55 l0 x18_1).f1.f0))).setCell ⟨gb159, 4, none⟩ (.int .i64 ((rd_T55 l0 x18_1).f1.f1))).setCell ⟨gb159, 5, none⟩ (.int .i64 ((rd_T55 l0 x18_1).f1.f2))).setCell ⟨gb159, 6, none⟩ (.int .i64 ((rd_T55 l0 x18_1).f2))).setCell ⟨gb159, 7, none⟩ (.int .i64 ((rd_T55 l0 x18_1).f3))).setCell ⟨gb159, 8, none⟩ (.int .i64 ((rd_T55 l0 x18_1).f4))).heap[gb159]? = some (.cells #[.int .i64 ((rd_T55 l0 x18_1).f0.f0), .int .i64 ((rd_T55 l0 x18_1).f0.f1), .int .i64 ((rd_T55 l0 x18_1).f0.f2), .int .i64 ((rd_T55 l0 x18_1).f1.f0), .int .i64 ((rd_T55 l0 x18_1).f1.f1), .int .i64 ((rd_T55 l0 x18_1).f1.f2), .int .i64 ((rd_T55 l0 x18_1).f2), .int .i64 ((rd_T55 l0 x18_1).f3), .int .i64 ((rd_T55 l0 x18_1).f4)] 55 (0, 0))) := ⟨by (with_reducible repeat (first | refine blk_drewN ?_ _ | refine blk_drew ?_ | refine blk_alloc ?_ _)); refine blk_put (cs := #[.int .i64 ((rd_T55 l0 x18_1).f0.f0), .int .i64 ((rd_T55 l0 x18_1).f0.f1), .int .i64 ((rd_T55 l0 x18_1).f0.f2), .int .i64 ((rd_T55 l0 x18_1).f1.f0), .int .i64 ((rd_T55 l0 x18_1).f1.f1), .int .i64 ((rd_T55 l0 x18_1).f1.f2), .int .i64 ((rd_T55 l0 x18_1).f2), .int .i64 ((rd_T55 l0 x18_1).f3), .int .i64 0]) ?_ 8 _ rfl; (with_reducible repeat (first | refine blk_drewN ?_ _ | refine blk_drew ?_ | refine blk_alloc ?_ _)); refine blk_put (cs := #[.int .i64 ((rd_T55 l0 x18_1).f0.f0), .int .i64 ((rd_T55 l0 x18_1).f0.f1), .int .i64 ((rd_T55 l0 x18_1).f0.f2), .int .i64 ((rd_T55 l0 x18_1).f1.f0), .int .i64 ((rd_T55 l0 x18_1).f1.f1), .int .i64 ((rd_T55 l0 x18_1).f1.f2), .int .i64 ((rd_T55 l0 x18_1).f2), .int .i64 0, .int .i64 0]) ?_ 7 _ rfl; (with_reducible repeat (first | refine blk_drewN ?_ _ | refine blk_drew ?_ | refine blk_alloc ?_ _)); refine blk_put (cs := #[.int .i64 ((rd_T55 l0 x18_1).f0.f0), .int .i64 ((rd_T55 l0 x18_1).f0.f1), .int .i64 ((rd_T55 l0 x18_1).f0.f2), .int .i64 ((rd_T55 l0 x18_1).f1.f0), .int .i64 ((rd_T55 l0 x18_1).f1.f1), .int .i64 ((rd_T55 l0 x18_1).f1.f2), .int .i64 0, .int .i64 0, .int .i64 0]) ?_ 6 _ rfl; (with_reducible repeat (first | refine blk_drewN ?_ _ | refine blk_drew ?_ | refine blk_alloc ?_ _)); refine blk_put (cs := #[.int .i64 ((rd_T55 l0 x18_1).f0.f0), .int .i64 ((rd_T55 l0 x18_1).f0.f1), .int .i64 ((rd_T55 l0 x18_1).f0.f2), .int .i64 ((rd_T55 l0 x18_1).f1.f0), .int .i64 ((rd_T55 l0 x18_1).f1.f1), .int .i64 0, .int .i64 0, .int .i64 0, .int .i64 0]) ?_ 5 _ rfl; (with_reducible repeat (first | refine blk_drewN ?_ _ | refine blk_drew ?_ | refine blk_alloc ?_ _)); refine blk_put (cs := #[.int .i64 ((rd_T55 l0 x18_1).f0.f0), .int .i64 ((rd_T55 l0 x18_1).f0.f1), .int .i64 ((rd_T55 l0 x18_1).f0.f2), .int .i64 ((rd_T55 l0 x18_1).f1.f0), .int .i64 0, .int .i64 0, .int .i64 0, .int .i64 0, .int .i64 0]) ?_ 4 _ rfl; (with_reducible repeat (first | refine blk_drewN ?_ _ | refine blk_drew ?_ | refine blk_alloc ?_ _)); refine blk_put (cs := #[.int .i64 ((rd_T55 l0 x18_1).f0.f0), .int .i64 ((rd_T55 l0 x18_1).f0.f1), .int .i64 ((rd_T55 l0 x18_1).f0.f2), .int .i64 0, .int .i64 0, .int .i64 0, .int .i64 0, .int .i64 0, .int .i64 0]) ?_ 3 _ rfl; (with_reducible repeat (first | refine blk_drewN ?_ _ | refine blk_drew ?_ | refine blk_alloc ?_ _)); refine blk_put (cs := #[.int .i64 ((rd_T55 l0 x18_1).f0.f0), .int .i64 ((rd_T55 l0 x18_1).f0.f1), .int .i64 0, .int .i64 0, .int .i64 0, .int .i64 0, .int .i64 0, .int .i64 0, .int .i64 0]) ?_ 2 _ rfl; (with_reducible repeat (first | refine blk_drewN ?_ _ | refine blk_drew ?_ | refine blk_alloc ?_ _)); refine blk_put (cs := #[.int .i64 ((rd_T55 l0 x18_1).f0.f0), .int .i64 0, .int .i64 0, .int .i64 0, .int .i64 0, .int .i64 0, .int .i64 0, .int .i64 0, .int .i64 0]) ?_ 1 _ rfl; (with_reducible repeat (first | refine blk_drewN ?_ _ | refine blk_drew ?_ | refine blk_alloc ?_ _)); refine blk_put (cs := #[.int .i64 0, .int .i64 0, .int .i64 0, .int .i64 0, .int .i64 0, .int .i64 0, .int .i64 0, .int .i64 0, .int .i64 0]) ?_ 0 _ rfl; (with_reducible repeat (first | refine blk_drewN ?_ _ | refine blk_drew ?_ | refine blk_alloc ?_ _)); exact BK159.out⟩
         have n2_ : Aside0 (Below w.heap.size w (((((((((w32.setCell ⟨gb159, 0, none⟩ (.int .i64 ((rd_T55 l0 x18_1).f0.f0))).setCell ⟨gb159, 1, none⟩ (.int .i64 ((rd_T55 l0 x18_1).f0.f1))).setCell ⟨gb159, 2, none⟩ (.int .i64 ((rd_T55 l0 x18_1).f0.f2))).setCell ⟨gb159, 3, none⟩ (.int .i64 ((rd_T55 l0 x18_1).f1.f0))).setCell ⟨gb159, 4, none⟩ (.int .i64 ((rd_T55 l0 x18_1).f1.f1))).setCell ⟨gb159, 5, none⟩ (.int .i64 ((rd_T55 l0 x18_1).f1.f2))).setCell ⟨gb159, 6, none⟩ (.int .i64 ((rd_T55 l0 x18_1).f2))).setCell ⟨gb159, 7, none⟩ (.int .i64 ((rd_T55 l0 x18_1).f3))).setCell ⟨gb159, 8, none⟩ (.int .i64 ((rd_T55 l0 x18_1).f4)))) := ⟨by repeat (first | (with_reducible first | exact HB.out | apply below_alloc | apply pw_below_drewN | apply below_drew1 | refine below_set ?_ GE156.out | refine below_set ?_ GE159.out) | exact HB.out)⟩
         (try clear BK156)
         (try clear BK159)
         (try clear HB)
         generalize (((((((((w32.setCell ⟨gb159, 0, none⟩ (.int .i64 ((rd_T55 l0 x18_1).f0.f0))).setCell ⟨gb159, 1, none⟩ (.int .i64 ((rd_T55 l0 x18_1).f0.f1))).setCell ⟨gb159, 2, none⟩ (.int .i64 ((rd_T55 l0 x18_1).f0.f2))).setCell ⟨gb159, 3, none⟩ (.int .i64 ((rd_T55 l0 x18_1).f1.f0))).setCell ⟨gb159, 4, none⟩ (.int .i64 ((rd_T55 l0 x18_1).f1.f1))).setCell ⟨gb159, 5, none⟩ (.int .i64 ((rd_T55 l0 x18_1).f1.f2))).setCell ⟨gb159, 6, none⟩ (.int .i64 ((rd_T55 l0 x18_1).f2))).setCell ⟨gb159, 7, none⟩ (.int .i64 ((rd_T55 l0 x18_1).f3))).setCell ⟨gb159, 8, none⟩ (.int .i64 ((rd_T55 l0 x18_1).f4))) = w35 at n0_ n1_ n2_ ⊢
         have BK156 := n0_
         have BK159 := n1_
         have HB := n2_
         clear n0_ n1_ n2_
         have n0_ := Aside0.mk (blk_drew BK156.out)
         have n1_ := Aside0.mk (blk_drew BK159.out)
         have n2_ := Aside0.mk (below_drew1 HB.out)
         clear BK156
         clear BK159
         clear HB
         have BK156 := n0_
         have BK159 := n1_
         have HB := n2_
         clear n0_ n1_ n2_
         refine start_ (n := 18) (S := fun w' => w'.cell? ⟨gb159, 0, none⟩ = some (.int .i64 ((rd_T55 l0 x18_1).f0.f0)) ∧ w'.cell? ⟨gb159, 1, none⟩ = some (.int .i64 ((rd_T55 l0 x18_1).f0.f1)) ∧ w'.cell? ⟨gb159, 2, none⟩ = some (.int .i64 ((rd_T55 l0 x18_1).f0.f2)) ∧ w'.cell? ⟨gb159, 3, none⟩ = some (.int .i64 ((rd_T55 l0 x18_1).f1.f0)) ∧ w'.cell? ⟨gb159, 4, none⟩ = some (.int .i64 ((rd_T55 l0 x18_1).f1.f1)) ∧ w'.cell? ⟨gb159, 5, none⟩ = some (.int .i64 ((rd_T55 l0 x18_1).f1.f2)) ∧ w'.cell? ⟨gb159, 6, none⟩ = some (.int .i64 ((rd_T55 l0 x18_1).f2)) ∧ w'.cell? ⟨gb159, 7, none⟩ = some (.int .i64 ((rd_T55 l0 x18_1).f3)) ∧ w'.cell? ⟨gb159, 8, none⟩ = some (.int .i64 ((rd_T55 l0 x18_1).f4))) (ds := []) #[false, false, false, false, false, false, false, false, false, false, false, false, false, false, false, false, false, false] (by kernel_rfl) rfl rfl ⟨(blk_cell BK159.out 0).trans rfl, (blk_cell BK159.out 1).trans rfl, (blk_cell BK159.out 2).trans rfl, (blk_cell BK159.out 3).trans rfl, (blk_cell BK159.out 4).trans rfl, (blk_cell BK159.out 5).trans rfl, (blk_cell BK159.out 6).trans rfl, (blk_cell BK159.out 7).trans rfl, (blk_cell BK159.out 8).trans rfl⟩ (fun hHeld => ?_); refine with_tabW controller_check.tab6 controller_check.bits6 (fun HT_ HW_ => ?_)
         generalize w35.drew = w36 at BK156 BK159 HB hHeld ⊢
         refine pu 0 23 (bzz 18 1) (any_of HT_.out (by kernel_rfl)) ?_
         refine ta 1 24 (bzz 18 3) (take_ofW HT_.out HW_.out (by kernel_rfl)) hHeld ?_
         refine pu 2 25 (bzz 18 7) (any_of HT_.out (by kernel_rfl)) ?_
         refine pu 3 26 (bzz 18 15) (any_of HT_.out (by kernel_rfl)) ?_
         refine pu 4 27 (bzz 18 31) (any_of HT_.out (by kernel_rfl)) ?_
         refine pu 5 28 (bzz 18 63) (any_of HT_.out (by kernel_rfl)) ?_
         refine pu 6 29 (bzz 18 127) (any_of HT_.out (by kernel_rfl)) ?_
         refine po 7 30 (bzz 18 255) (any_of HT_.out (by kernel_rfl)) ?_
         refine po 8 31 (bzz 18 511) (any_of HT_.out (by kernel_rfl)) ?_
         refine po 9 32 (bzz 18 1023) (any_of HT_.out (by kernel_rfl)) ?_
         refine po 10 33 (bzz 18 2047) (any_of HT_.out (by kernel_rfl)) ?_
         refine po 11 34 (bzz 18 4095) (any_of HT_.out (by kernel_rfl)) ?_
         refine po 12 35 (bzz 18 8191) (any_of HT_.out (by kernel_rfl)) ?_
         refine po 13 36 (bzz 18 16383) (any_of HT_.out (by kernel_rfl)) ?_
         refine po 14 37 (bzz 18 32767) (any_of HT_.out (by kernel_rfl)) ?_
         refine po 15 38 (bzz 18 65535) (any_of HT_.out (by kernel_rfl)) ?_
         refine pu 16 39 (bzz 18 131071) (any_of HT_.out (by kernel_rfl)) ?_
         refine pu 17 40 (bzz 18 262143) (any_of HT_.out (by kernel_rfl)) ?_
         refine done_ (done_of HT_.out (by kernel_rfl)) ?_
         try go_wp2
         go_roundg k1
         case measure => have := HK1.out; omega
         case rel => exact ⟨(wrap64 (x18_1 + 1)), (by first | rfl | (simp; done) | (simp [*]; done)), H', ⟨by have := HK1.out; omega⟩, ⟨by (with_reducible repeat (first | refine blk_drewN ?_ _ | refine blk_drew ?_ | refine blk_alloc ?_ _)); exact BK156.out⟩, ⟨by repeat (first | (with_reducible first | exact HB.out | apply below_alloc | apply pw_below_drewN | apply below_drew1 | refine below_set ?_ GE156.out | refine below_set ?_ GE159.out) | exact HB.out)⟩⟩
      ·rw [if_neg c10] at H
       exact absurd H (by simp)
     ·rw [if_neg c9] at H
      exact absurd H (by simp)
    ·rw [if_neg c8] at H
     have c8b0 : decide (x18_1 < (l0.length : Int)) = false := decide_eq_false c8
     clear c8
     have H' := Aside0.mk H
     clear H
     go_wp2
     go_loopg [44] k1 (fun kq v44 w' => ∃ (x44_2 : Int), v44 = .int .i64 x44_2 ∧ Aside0 (controller_check.l1 kq l0 l0 (l0.length : Int) x44_2 a1_0 a1_1 a1_2 = some r) ∧ Aside0 (kq ≤ k1) ∧ Aside0 (w'.heap[gb156]? = some (.cells #[.int .i64 a1_0, .int .i64 a1_1, .int .i64 a1_2] 31 (0, 0))) ∧ Aside0 (Below w.heap.size w w'))
     case atStart => exact ⟨(0), (by first | rfl | (simp; done) | (simp [*]; done)), H', ⟨Nat.le_refl _⟩, ⟨by (with_reducible repeat (first | refine blk_drewN ?_ _ | refine blk_drew ?_ | refine blk_alloc ?_ _)); exact BK156.out⟩, ⟨by repeat (first | (with_reducible first | exact HB.out | apply below_alloc | apply pw_below_drewN | apply below_drew1 | refine below_set ?_ GE156.out) | exact HB.out)⟩⟩
     case round =>
      clear H'
      try clear c1
      try clear p1
      try clear q1
      try clear hx1
      try clear c2
      try clear p2
      try clear c3
      try clear p6
      try clear c8
      try clear c8b0
      try clear c9
      try clear c10
      try clear p15
      try clear q15
      try clear hx15
      try clear p16
      try clear q16
      try clear hx16
      try clear c17
      try clear c17b0
      try clear c19
      try clear c20
      try clear c21
      try clear c21b0
      try clear c23
      try clear c28
      try clear c33
      try clear hx158_0
      try clear hx158_1
      try clear hx158_2
      try clear hx158_3
      try clear hx158_4
      try clear hx158_5
      try clear hx158_6
      try clear hx158_7
      try clear hx158_8
      try clear hx160_0
      try clear hx160_1
      try clear hx160_2
      try clear hx160_3
      try clear hx160_4
      try clear hx160_5
      try clear hx160_6
      try clear hx160_7
      try clear hx160_8
      try clear p158
      try clear p160
      try clear q158
      try clear q160
      obtain ⟨x44_2, rfl, HA, HK2, BK156, HB⟩ := hrel
      cases gk with
      | zero => exact absurd HA.out (by simp [controller_check.l1])
      | succ k2 =>
       have H := HA.out
       clear HA
       simp only [controller_check.l1] at H
       by_cases c37 : x44_2 < (l0.length : Int)
       ·rw [if_pos c37] at H
        have c37b0 : decide (x44_2 < (l0.length : Int)) = true := decide_eq_true c37
        clear c37
        by_cases c38 : 0 ≤ x44_2
        ·rw [if_pos c38] at H
         have c38b0 : decide (0 ≤ x44_2) = true := decide_eq_true c38
         clear c38
         by_cases c39 : x44_2 < (l0.length : Int)
         ·rw [if_pos c39] at H
          have c39b0 : decide (x44_2 < (l0.length : Int)) = true := decide_eq_true c39
          clear c39
          replace H := Option.bind_eq_some_iff.mp H
          obtain ⟨t163, A400, H⟩ := H
          replace H : (if t163 = true then (some 11) else ((controller_far.f ((rd_T55 l0 x44_2).f1.f0) ((rd_T55 l0 x44_2).f1.f1) ((rd_T55 l0 x44_2).f1.f2)).bind fun t164 => (if t164 = true then (some 11) else (controller_check.l1 k2 l0 l0 (l0.length : Int) (wrap64 (x44_2 + 1)) a1_0 a1_1 a1_2)))) = some r := H
          have A40 := Aside0.mk A400
          clear A400
          by_cases c41 : t163 = true
          ·subst c41
           have H1 : (some 11) = some r := by rw [if_pos rfl] at H; exact H
           clear H
           have H := H1
           clear H1
           obtain rfl := Option.some.inj H
           have p161 : 0 ≤ (x44_2 : Int) := of_decide_eq_true (by first | (with_reducible assumption) | assumption)
           have q161 : x44_2 < (l0.length : Int) := of_decide_eq_true (by first | (with_reducible assumption) | assumption)
           obtain ⟨ad161, e161, hx161_0, hx161_1, hx161_2, hx161_3, hx161_4, hx161_5, hx161_6, hx161_7, hx161_8⟩ := at_T55 HR0.out x44_2 p161 q161
           cases e161
           replace hx161_0 := (HB.out.cell (World.block_lt_of_cell? w _ hx161_0)).trans hx161_0
           replace hx161_1 := (HB.out.cell (World.block_lt_of_cell? w _ hx161_1)).trans hx161_1
           replace hx161_2 := (HB.out.cell (World.block_lt_of_cell? w _ hx161_2)).trans hx161_2
           replace hx161_3 := (HB.out.cell (World.block_lt_of_cell? w _ hx161_3)).trans hx161_3
           replace hx161_4 := (HB.out.cell (World.block_lt_of_cell? w _ hx161_4)).trans hx161_4
           replace hx161_5 := (HB.out.cell (World.block_lt_of_cell? w _ hx161_5)).trans hx161_5
           replace hx161_6 := (HB.out.cell (World.block_lt_of_cell? w _ hx161_6)).trans hx161_6
           replace hx161_7 := (HB.out.cell (World.block_lt_of_cell? w _ hx161_7)).trans hx161_7
           replace hx161_8 := (HB.out.cell (World.block_lt_of_cell? w _ hx161_8)).trans hx161_8
           replace p161 := eq_true p161
           replace q161 := eq_true q161
           go_wp2_with (first | ((with_reducible refine gate_dst (N := 8) rfl ?_); refine box_event ?hg (N := 8) ?hd (cs := #[.int .i64 0, .int .i64 0, .int .i64 0, .int .i64 0, .int .i64 0, .int .i64 0, .int .i64 0, .int .i64 0, .int .i64 0]) (t := 55) ?hr ?_; (case hd => rfl); (case hg => rfl); (case hr => first | (go_simp; done) | (go_simp; rfl)); intro gb162 hg w42 hbox hb; have n0_ := Aside0.mk (blk_below (g := gb156) (o := .cells #[.int .i64 a1_0, .int .i64 a1_1, .int .i64 a1_2] 31 (0, 0)) (by (with_reducible repeat (first | refine blk_drewN ?_ _ | refine blk_drew ?_ | refine blk_alloc ?_ _)); exact BK156.out) hb); have n1_ := Aside0.mk (below_step (by repeat (first | (with_reducible first | exact HB.out | apply below_alloc | apply pw_below_drewN | apply below_drew1 | refine below_set ?_ GE156.out) | exact HB.out)) hb); have n2_ := Aside0.mk (hbox); have n3_ := Aside0.mk ((by rw [hg]; exact (below_size (by repeat (first | (with_reducible first | exact HB.out | apply below_alloc | apply pw_below_drewN | apply below_drew1 | refine below_set ?_ GE156.out) | exact HB.out))) : w.heap.size ≤ gb162)); have n4_ := Aside0.mk ((by rw [hg]; exact (below_size (by repeat (first | (with_reducible first | exact HB.out | apply below_alloc | apply pw_below_drewN | apply below_drew1 | refine below_set ?_ GE156.out) | exact HB.out))) : w.heap.size ≤ gb162)); have n5_ := Aside0.mk ((by rw [hg]; exact Nat.ne_of_lt (blk_lt (g := gb156) (o := .cells #[.int .i64 a1_0, .int .i64 a1_1, .int .i64 a1_2] 31 (0, 0)) (by (with_reducible repeat (first | refine blk_drewN ?_ _ | refine blk_drew ?_ | refine blk_alloc ?_ _)); exact BK156.out)) : gb156 ≠ gb162)); have n6_ := Aside0.mk ((by rw [hg]; exact Nat.ne_of_gt (blk_lt (g := gb156) (o := .cells #[.int .i64 a1_0, .int .i64 a1_1, .int .i64 a1_2] 31 (0, 0)) (by (with_reducible repeat (first | refine blk_drewN ?_ _ | refine blk_drew ?_ | refine blk_alloc ?_ _)); exact BK156.out)) : gb162 ≠ gb156)); clear BK156; clear HB; have BK156 := n0_; have HB := n1_; have BK162 := n2_; have GW162 := n3_; have GE162 := n4_; have NB156_162 := n5_; have NB162_156 := n6_; clear n0_ n1_ n2_ n3_ n4_ n5_ n6_; clear hb hbox hg; have hnb43 := NB162_156.out; have hnc43 := NB156_162.out; have hcz44_0 : w42.cell? ⟨gb162, 0, none⟩ = some (.int .i64 0) := (blk_cell BK162.out 0).trans rfl; have hcz44_1 : w42.cell? ⟨gb162, 1, none⟩ = some (.int .i64 0) := (blk_cell BK162.out 1).trans rfl; have hcz44_2 : w42.cell? ⟨gb162, 2, none⟩ = some (.int .i64 0) := (blk_cell BK162.out 2).trans rfl; have hcz44_3 : w42.cell? ⟨gb162, 3, none⟩ = some (.int .i64 0) := (blk_cell BK162.out 3).trans rfl; have hcz44_4 : w42.cell? ⟨gb162, 4, none⟩ = some (.int .i64 0) := (blk_cell BK162.out 4).trans rfl; have hcz44_5 : w42.cell? ⟨gb162, 5, none⟩ = some (.int .i64 0) := (blk_cell BK162.out 5).trans rfl; have hcz44_6 : w42.cell? ⟨gb162, 6, none⟩ = some (.int .i64 0) := (blk_cell BK162.out 6).trans rfl; have hcz44_7 : w42.cell? ⟨gb162, 7, none⟩ = some (.int .i64 0) := (blk_cell BK162.out 7).trans rfl; have hcz44_8 : w42.cell? ⟨gb162, 8, none⟩ = some (.int .i64 0) := (blk_cell BK162.out 8).trans rfl; have hfz44_0 := blk_frozen BK162.out 0; have hfz44_1 := blk_frozen BK162.out 1; have hfz44_2 := blk_frozen BK162.out 2; have hfz44_3 := blk_frozen BK162.out 3; have hfz44_4 := blk_frozen BK162.out 4; have hfz44_5 := blk_frozen BK162.out 5; have hfz44_6 := blk_frozen BK162.out 6; have hfz44_7 := blk_frozen BK162.out 7; have hfz44_8 := blk_frozen BK162.out 8) | ((with_reducible refine gate_callee (f := 36) rfl ?_); refine goesL_ (some 50) rfl rfl Try.func36 (by kernel_rfl) rfl #[.agg #[.int .i64 ((rd_T55 l0 x44_2).f0.f0), .int .i64 ((rd_T55 l0 x44_2).f0.f1), .int .i64 ((rd_T55 l0 x44_2).f0.f2)]] rfl (by (try simp only [List.map_toArray, List.map_cons, List.map_nil]); first | done | rfl | (simp only [List.length_drop, List.length_take]; rfl)) ?_; (with_reducible refine (controller_far.calls ((rd_T55 l0 x44_2).f0.f0) ((rd_T55 l0 x44_2).f0.f1) ((rd_T55 l0 x44_2).f0.f2) true _ A40.out).mono ?_); rintro e w45 ⟨rfl, hb⟩; refine ⟨_, rfl, ?_⟩; have n0_ := Aside0.mk (blk_below (g := gb156) (o := .cells #[.int .i64 a1_0, .int .i64 a1_1, .int .i64 a1_2] 31 (0, 0)) (by (with_reducible repeat (first | refine blk_drewN ?_ _ | refine blk_drew ?_ | refine blk_alloc ?_ _)); refine blk_far ?_ NB156_162.out _; (with_reducible repeat (first | refine blk_drewN ?_ _ | refine blk_drew ?_ | refine blk_alloc ?_ _)); refine blk_far ?_ NB156_162.out _; (with_reducible repeat (first | refine blk_drewN ?_ _ | refine blk_drew ?_ | refine blk_alloc ?_ _)); refine blk_far ?_ NB156_162.out _; (with_reducible repeat (first | refine blk_drewN ?_ _ | refine blk_drew ?_ | refine blk_alloc ?_ _)); refine blk_far ?_ NB156_162.out _; (with_reducible repeat (first | refine blk_drewN ?_ _ | refine blk_drew ?_ | refine blk_alloc ?_ _)); refine blk_far ?_ NB156_162.out _; (with_reducible repeat (first | refine blk_drewN ?_ _ | refine blk_drew ?_ | refine blk_alloc ?_ _)); refine blk_far ?_ NB156_162.out _; (with_reducible repeat (first | refine blk_drewN ?_ _ | refine blk_drew ?_ | refine blk_alloc ?_ _)); refine blk_far ?_ NB156_162.out _; (with_reducible repeat (first | refine blk_drewN ?_ _ | refine blk_drew ?_ | refine blk_alloc ?_ _)); refine blk_far ?_ NB156_162.out _; (with_reducible repeat (first | refine blk_drewN ?_ _ | refine blk_drew ?_ | refine blk_alloc ?_ _)); refine blk_far ?_ NB156_162.out _; (with_reducible repeat (first | refine blk_drewN ?_ _ | refine blk_drew ?_ | refine blk_alloc ?_ _)); exact BK156.out) hb); have n1_ := Aside0.mk (blk_below (g := gb162) (o := .cells #[.int .i64 ((rd_T55 l0 x44_2).f0.f0), .int .i64 ((rd_T55 l0 x44_2).f0.f1), .int .i64 ((rd_T55 l0 x44_2).f0.f2), .int .i64 ((rd_T55 l0 x44_2).f1.f0), .int .i64 ((rd_T55 l0 x44_2).f1.f1), .int .i64 ((rd_T55 l0 x44_2).f1.f2), .int .i64 ((rd_T55 l0 x44_2).f2), .int .i64 ((rd_T55 l0 x44_2).f3), .int .i64 ((rd_T55 l0 x44_2).f4)] 55 (0, 0)) (by (with_reducible repeat (first | refine blk_drewN ?_ _ | refine blk_drew ?_ | refine blk_alloc ?_ _)); refine blk_put (cs := #[.int .i64 ((rd_T55 l0 x44_2).f0.f0), .int .i64 ((rd_T55 l0 x44_2).f0.f1), .int .i64 ((rd_T55 l0 x44_2).f0.f2), .int .i64 ((rd_T55 l0 x44_2).f1.f0), .int .i64 ((rd_T55 l0 x44_2).f1.f1), .int .i64 ((rd_T55 l0 x44_2).f1.f2), .int .i64 ((rd_T55 l0 x44_2).f2), .int .i64 ((rd_T55 l0 x44_2).f3), .int .i64 0]) ?_ 8 _ rfl; (with_reducible repeat (first | refine blk_drewN ?_ _ | refine blk_drew ?_ | refine blk_alloc ?_ _)); refine blk_put (cs := #[.int .i64 ((rd_T55 l0 x44_2).f0.f0), .int .i64 ((rd_T55 l0 x44_2).f0.f1), .int .i64 ((rd_T55 l0 x44_2).f0.f2), .int .i64 ((rd_T55 l0 x44_2).f1.f0), .int .i64 ((rd_T55 l0 x44_2).f1.f1), .int .i64 ((rd_T55 l0 x44_2).f1.f2), .int .i64 ((rd_T55 l0 x44_2).f2), .int .i64 0, .int .i64 0]) ?_ 7 _ rfl; (with_reducible repeat (first | refine blk_drewN ?_ _ | refine blk_drew ?_ | refine blk_alloc ?_ _)); refine blk_put (cs := #[.int .i64 ((rd_T55 l0 x44_2).f0.f0), .int .i64 ((rd_T55 l0 x44_2).f0.f1), .int .i64 ((rd_T55 l0 x44_2).f0.f2), .int .i64 ((rd_T55 l0 x44_2).f1.f0), .int .i64 ((rd_T55 l0 x44_2).f1.f1), .int .i64 ((rd_T55 l0 x44_2).f1.f2), .int .i64 0, .int .i64 0, .int .i64 0]) ?_ 6 _ rfl; (with_reducible repeat (first | refine blk_drewN ?_ _ | refine blk_drew ?_ | refine blk_alloc ?_ _)); refine blk_put (cs := #[.int .i64 ((rd_T55 l0 x44_2).f0.f0), .int .i64 ((rd_T55 l0 x44_2).f0.f1), .int .i64 ((rd_T55 l0 x44_2).f0.f2), .int .i64 ((rd_T55 l0 x44_2).f1.f0), .int .i64 ((rd_T55 l0 x44_2).f1.f1), .int .i64 0, .int .i64 0, .int .i64 0, .int .i64 0]) ?_ 5 _ rfl; (with_reducible repeat (first | refine blk_drewN ?_ _ | refine blk_drew ?_ | refine blk_alloc ?_ _)); refine blk_put (cs := #[.int .i64 ((rd_T55 l0 x44_2).f0.f0), .int .i64 ((rd_T55 l0 x44_2).f0.f1), .int .i64 ((rd_T55 l0 x44_2).f0.f2), .int .i64 ((rd_T55 l0 x44_2).f1.f0), .int .i64 0, .int .i64 0, .int .i64 0, .int .i64 0, .int .i64 0]) ?_ 4 _ rfl; (with_reducible repeat (first | refine blk_drewN ?_ _ | refine blk_drew ?_ | refine blk_alloc ?_ _)); refine blk_put (cs := #[.int .i64 ((rd_T55 l0 x44_2).f0.f0), .int .i64 ((rd_T55 l0 x44_2).f0.f1), .int .i64 ((rd_T55 l0 x44_2).f0.f2), .int .i64 0, .int .i64 0, .int .i64 0, .int .i64 0, .int .i64 0, .int .i64 0]) ?_ 3 _ rfl; (with_reducible repeat (first | refine blk_drewN ?_ _ | refine blk_drew ?_ | refine blk_alloc ?_ _)); refine blk_put (cs := #[.int .i64 ((rd_T55 l0 x44_2).f0.f0), .int .i64 ((rd_T55 l0 x44_2).f0.f1), .int .i64 0, .int .i64 0, .int .i64 0, .int .i64 0, .int .i64 0, .int .i64 0, .int .i64 0]) ?_ 2 _ rfl; (with_reducible repeat (first | refine blk_drewN ?_ _ | refine blk_drew ?_ | refine blk_alloc ?_ _)); refine blk_put (cs := #[.int .i64 ((rd_T55 l0 x44_2).f0.f0), .int .i64 0, .int .i64 0, .int .i64 0, .int .i64 0, .int .i64 0, .int .i64 0, .int .i64 0, .int .i64 0]) ?_ 1 _ rfl; (with_reducible repeat (first | refine blk_drewN ?_ _ | refine blk_drew ?_ | refine blk_alloc ?_ _)); refine blk_put (cs := #[.int .i64 0, .int .i64 0, .int .i64 0, .int .i64 0, .int .i64 0, .int .i64 0, .int .i64 0, .int .i64 0, .int .i64 0]) ?_ 0 _ rfl; (with_reducible repeat (first | refine blk_drewN ?_ _ | refine blk_drew ?_ | refine blk_alloc ?_ _)); exact BK162.out) hb); have n2_ := Aside0.mk (below_step (by repeat (first | (with_reducible first | exact HB.out | apply below_alloc | apply pw_below_drewN | apply below_drew1 | refine below_set ?_ GE156.out | refine below_set ?_ GE162.out) | exact HB.out)) hb); clear BK156; clear BK162; clear HB; have BK156 := n0_; have BK162 := n1_; have HB := n2_; clear n0_ n1_ n2_; (try clear hb); (try clear hb2); (try clear hk); (try clear hi)))
           go_ret
           exact ⟨by first | rfl | (simp [errW_none, errW_some] <;> rfl) | (simp [*, errW_none, errW_some] <;> rfl), by repeat (first | (with_reducible first | exact HB.out | apply below_alloc | apply pw_below_drewN | apply below_drew1 | refine below_set ?_ GE156.out | refine below_set ?_ GE162.out) | exact HB.out)⟩
          ·replace c41 := Bool.eq_false_iff.mpr c41
           subst c41
           have H1 : ((controller_far.f ((rd_T55 l0 x44_2).f1.f0) ((rd_T55 l0 x44_2).f1.f1) ((rd_T55 l0 x44_2).f1.f2)).bind fun t164 => (if t164 = true then (some 11) else (controller_check.l1 k2 l0 l0 (l0.length : Int) (wrap64 (x44_2 + 1)) a1_0 a1_1 a1_2))) = some r := by rw [if_neg (show ¬ (false = true) by decide)] at H; exact H
           clear H
           have H := H1
           clear H1
           replace H := Option.bind_eq_some_iff.mp H
           obtain ⟨t164, A460, H⟩ := H
           replace H : (if t164 = true then (some 11) else (controller_check.l1 k2 l0 l0 (l0.length : Int) (wrap64 (x44_2 + 1)) a1_0 a1_1 a1_2)) = some r := H
           have A46 := Aside0.mk A460
           clear A460
           by_cases c47 : t164 = true
           ·subst c47
            have H1 : (some 11) = some r := by rw [if_pos rfl] at H; exact H
            clear H
            have H := H1
            clear H1
            obtain rfl := Option.some.inj H
            have p161 : 0 ≤ (x44_2 : Int) := of_decide_eq_true (by first | (with_reducible assumption) | assumption)
            have q161 : x44_2 < (l0.length : Int) := of_decide_eq_true (by first | (with_reducible assumption) | assumption)
            obtain ⟨ad161, e161, hx161_0, hx161_1, hx161_2, hx161_3, hx161_4, hx161_5, hx161_6, hx161_7, hx161_8⟩ := at_T55 HR0.out x44_2 p161 q161
            cases e161
            replace hx161_0 := (HB.out.cell (World.block_lt_of_cell? w _ hx161_0)).trans hx161_0
            replace hx161_1 := (HB.out.cell (World.block_lt_of_cell? w _ hx161_1)).trans hx161_1
            replace hx161_2 := (HB.out.cell (World.block_lt_of_cell? w _ hx161_2)).trans hx161_2
            replace hx161_3 := (HB.out.cell (World.block_lt_of_cell? w _ hx161_3)).trans hx161_3
            replace hx161_4 := (HB.out.cell (World.block_lt_of_cell? w _ hx161_4)).trans hx161_4
            replace hx161_5 := (HB.out.cell (World.block_lt_of_cell? w _ hx161_5)).trans hx161_5
            replace hx161_6 := (HB.out.cell (World.block_lt_of_cell? w _ hx161_6)).trans hx161_6
            replace hx161_7 := (HB.out.cell (World.block_lt_of_cell? w _ hx161_7)).trans hx161_7
            replace hx161_8 := (HB.out.cell (World.block_lt_of_cell? w _ hx161_8)).trans hx161_8
            replace p161 := eq_true p161
            replace q161 := eq_true q161
            go_wp2_with (first | ((with_reducible refine gate_dst (N := 8) rfl ?_); refine box_event ?hg (N := 8) ?hd (cs := #[.int .i64 0, .int .i64 0, .int .i64 0, .int .i64 0, .int .i64 0, .int .i64 0, .int .i64 0, .int .i64 0, .int .i64 0]) (t := 55) ?hr ?_; (case hd => rfl); (case hg => rfl); (case hr => first | (go_simp; done) | (go_simp; rfl)); intro gb162 hg w48 hbox hb; have n0_ := Aside0.mk (blk_below (g := gb156) (o := .cells #[.int .i64 a1_0, .int .i64 a1_1, .int .i64 a1_2] 31 (0, 0)) (by (with_reducible repeat (first | refine blk_drewN ?_ _ | refine blk_drew ?_ | refine blk_alloc ?_ _)); exact BK156.out) hb); have n1_ := Aside0.mk (below_step (by repeat (first | (with_reducible first | exact HB.out | apply below_alloc | apply pw_below_drewN | apply below_drew1 | refine below_set ?_ GE156.out) | exact HB.out)) hb); have n2_ := Aside0.mk (hbox); have n3_ := Aside0.mk ((by rw [hg]; exact (below_size (by repeat (first | (with_reducible first | exact HB.out | apply below_alloc | apply pw_below_drewN | apply below_drew1 | refine below_set ?_ GE156.out) | exact HB.out))) : w.heap.size ≤ gb162)); have n4_ := Aside0.mk ((by rw [hg]; exact (below_size (by repeat (first | (with_reducible first | exact HB.out | apply below_alloc | apply pw_below_drewN | apply below_drew1 | refine below_set ?_ GE156.out) | exact HB.out))) : w.heap.size ≤ gb162)); have n5_ := Aside0.mk ((by rw [hg]; exact Nat.ne_of_lt (blk_lt (g := gb156) (o := .cells #[.int .i64 a1_0, .int .i64 a1_1, .int .i64 a1_2] 31 (0, 0)) (by (with_reducible repeat (first | refine blk_drewN ?_ _ | refine blk_drew ?_ | refine blk_alloc ?_ _)); exact BK156.out)) : gb156 ≠ gb162)); have n6_ := Aside0.mk ((by rw [hg]; exact Nat.ne_of_gt (blk_lt (g := gb156) (o := .cells #[.int .i64 a1_0, .int .i64 a1_1, .int .i64 a1_2] 31 (0, 0)) (by (with_reducible repeat (first | refine blk_drewN ?_ _ | refine blk_drew ?_ | refine blk_alloc ?_ _)); exact BK156.out)) : gb162 ≠ gb156)); clear BK156; clear HB; have BK156 := n0_; have HB := n1_; have BK162 := n2_; have GW162 := n3_; have GE162 := n4_; have NB156_162 := n5_; have NB162_156 := n6_; clear n0_ n1_ n2_ n3_ n4_ n5_ n6_; clear hb hbox hg; have hnb49 := NB162_156.out; have hnc49 := NB156_162.out; have hcz50_0 : w48.cell? ⟨gb162, 0, none⟩ = some (.int .i64 0) := (blk_cell BK162.out 0).trans rfl; have hcz50_1 : w48.cell? ⟨gb162, 1, none⟩ = some (.int .i64 0) := (blk_cell BK162.out 1).trans rfl; have hcz50_2 : w48.cell? ⟨gb162, 2, none⟩ = some (.int .i64 0) := (blk_cell BK162.out 2).trans rfl; have hcz50_3 : w48.cell? ⟨gb162, 3, none⟩ = some (.int .i64 0) := (blk_cell BK162.out 3).trans rfl; have hcz50_4 : w48.cell? ⟨gb162, 4, none⟩ = some (.int .i64 0) := (blk_cell BK162.out 4).trans rfl; have hcz50_5 : w48.cell? ⟨gb162, 5, none⟩ = some (.int .i64 0) := (blk_cell BK162.out 5).trans rfl; have hcz50_6 : w48.cell? ⟨gb162, 6, none⟩ = some (.int .i64 0) := (blk_cell BK162.out 6).trans rfl; have hcz50_7 : w48.cell? ⟨gb162, 7, none⟩ = some (.int .i64 0) := (blk_cell BK162.out 7).trans rfl; have hcz50_8 : w48.cell? ⟨gb162, 8, none⟩ = some (.int .i64 0) := (blk_cell BK162.out 8).trans rfl; have hfz50_0 := blk_frozen BK162.out 0; have hfz50_1 := blk_frozen BK162.out 1; have hfz50_2 := blk_frozen BK162.out 2; have hfz50_3 := blk_frozen BK162.out 3; have hfz50_4 := blk_frozen BK162.out 4; have hfz50_5 := blk_frozen BK162.out 5; have hfz50_6 := blk_frozen BK162.out 6; have hfz50_7 := blk_frozen BK162.out 7; have hfz50_8 := blk_frozen BK162.out 8) | ((with_reducible refine gate_callee (f := 36) rfl ?_); refine goesL_ (some 50) rfl rfl Try.func36 (by kernel_rfl) rfl #[.agg #[.int .i64 ((rd_T55 l0 x44_2).f0.f0), .int .i64 ((rd_T55 l0 x44_2).f0.f1), .int .i64 ((rd_T55 l0 x44_2).f0.f2)]] rfl (by (try simp only [List.map_toArray, List.map_cons, List.map_nil]); first | done | rfl | (simp only [List.length_drop, List.length_take]; rfl)) ?_; (with_reducible refine (controller_far.calls ((rd_T55 l0 x44_2).f0.f0) ((rd_T55 l0 x44_2).f0.f1) ((rd_T55 l0 x44_2).f0.f2) false _ A40.out).mono ?_); rintro e w51 ⟨rfl, hb⟩; refine ⟨_, rfl, ?_⟩; have n0_ := Aside0.mk (blk_below (g := gb156) (o := .cells #[.int .i64 a1_0, .int .i64 a1_1, .int .i64 a1_2] 31 (0, 0)) (by (with_reducible repeat (first | refine blk_drewN ?_ _ | refine blk_drew ?_ | refine blk_alloc ?_ _)); refine blk_far ?_ NB156_162.out _; (with_reducible repeat (first | refine blk_drewN ?_ _ | refine blk_drew ?_ | refine blk_alloc ?_ _)); refine blk_far ?_ NB156_162.out _; (with_reducible repeat (first | refine blk_drewN ?_ _ | refine blk_drew ?_ | refine blk_alloc ?_ _)); refine blk_far ?_ NB156_162.out _; (with_reducible repeat (first | refine blk_drewN ?_ _ | refine blk_drew ?_ | refine blk_alloc ?_ _)); refine blk_far ?_ NB156_162.out _; (with_reducible repeat (first | refine blk_drewN ?_ _ | refine blk_drew ?_ | refine blk_alloc ?_ _)); refine blk_far ?_ NB156_162.out _; (with_reducible repeat (first | refine blk_drewN ?_ _ | refine blk_drew ?_ | refine blk_alloc ?_ _)); refine blk_far ?_ NB156_162.out _; (with_reducible repeat (first | refine blk_drewN ?_ _ | refine blk_drew ?_ | refine blk_alloc ?_ _)); refine blk_far ?_ NB156_162.out _; (with_reducible repeat (first | refine blk_drewN ?_ _ | refine blk_drew ?_ | refine blk_alloc ?_ _)); refine blk_far ?_ NB156_162.out _; (with_reducible repeat (first | refine blk_drewN ?_ _ | refine blk_drew ?_ | refine blk_alloc ?_ _)); refine blk_far ?_ NB156_162.out _; (with_reducible repeat (first | refine blk_drewN ?_ _ | refine blk_drew ?_ | refine blk_alloc ?_ _)); exact BK156.out) hb); have n1_ := Aside0.mk (blk_below (g := gb162) (o := .cells #[.int .i64 ((rd_T55 l0 x44_2).f0.f0), .int .i64 ((rd_T55 l0 x44_2).f0.f1), .int .i64 ((rd_T55 l0 x44_2).f0.f2), .int .i64 ((rd_T55 l0 x44_2).f1.f0), .int .i64 ((rd_T55 l0 x44_2).f1.f1), .int .i64 ((rd_T55 l0 x44_2).f1.f2), .int .i64 ((rd_T55 l0 x44_2).f2), .int .i64 ((rd_T55 l0 x44_2).f3), .int .i64 ((rd_T55 l0 x44_2).f4)] 55 (0, 0)) (by (with_reducible repeat (first | refine blk_drewN ?_ _ | refine blk_drew ?_ | refine blk_alloc ?_ _)); refine blk_put (cs := #[.int .i64 ((rd_T55 l0 x44_2).f0.f0), .int .i64 ((rd_T55 l0 x44_2).f0.f1), .int .i64 ((rd_T55 l0 x44_2).f0.f2), .int .i64 ((rd_T55 l0 x44_2).f1.f0), .int .i64 ((rd_T55 l0 x44_2).f1.f1), .int .i64 ((rd_T55 l0 x44_2).f1.f2), .int .i64 ((rd_T55 l0 x44_2).f2), .int .i64 ((rd_T55 l0 x44_2).f3), .int .i64 0]) ?_ 8 _ rfl; (with_reducible repeat (first | refine blk_drewN ?_ _ | refine blk_drew ?_ | refine blk_alloc ?_ _)); refine blk_put (cs := #[.int .i64 ((rd_T55 l0 x44_2).f0.f0), .int .i64 ((rd_T55 l0 x44_2).f0.f1), .int .i64 ((rd_T55 l0 x44_2).f0.f2), .int .i64 ((rd_T55 l0 x44_2).f1.f0), .int .i64 ((rd_T55 l0 x44_2).f1.f1), .int .i64 ((rd_T55 l0 x44_2).f1.f2), .int .i64 ((rd_T55 l0 x44_2).f2), .int .i64 0, .int .i64 0]) ?_ 7 _ rfl; (with_reducible repeat (first | refine blk_drewN ?_ _ | refine blk_drew ?_ | refine blk_alloc ?_ _)); refine blk_put (cs := #[.int .i64 ((rd_T55 l0 x44_2).f0.f0), .int .i64 ((rd_T55 l0 x44_2).f0.f1), .int .i64 ((rd_T55 l0 x44_2).f0.f2), .int .i64 ((rd_T55 l0 x44_2).f1.f0), .int .i64 ((rd_T55 l0 x44_2).f1.f1), .int .i64 ((rd_T55 l0 x44_2).f1.f2), .int .i64 0, .int .i64 0, .int .i64 0]) ?_ 6 _ rfl; (with_reducible repeat (first | refine blk_drewN ?_ _ | refine blk_drew ?_ | refine blk_alloc ?_ _)); refine blk_put (cs := #[.int .i64 ((rd_T55 l0 x44_2).f0.f0), .int .i64 ((rd_T55 l0 x44_2).f0.f1), .int .i64 ((rd_T55 l0 x44_2).f0.f2), .int .i64 ((rd_T55 l0 x44_2).f1.f0), .int .i64 ((rd_T55 l0 x44_2).f1.f1), .int .i64 0, .int .i64 0, .int .i64 0, .int .i64 0]) ?_ 5 _ rfl; (with_reducible repeat (first | refine blk_drewN ?_ _ | refine blk_drew ?_ | refine blk_alloc ?_ _)); refine blk_put (cs := #[.int .i64 ((rd_T55 l0 x44_2).f0.f0), .int .i64 ((rd_T55 l0 x44_2).f0.f1), .int .i64 ((rd_T55 l0 x44_2).f0.f2), .int .i64 ((rd_T55 l0 x44_2).f1.f0), .int .i64 0, .int .i64 0, .int .i64 0, .int .i64 0, .int .i64 0]) ?_ 4 _ rfl; (with_reducible repeat (first | refine blk_drewN ?_ _ | refine blk_drew ?_ | refine blk_alloc ?_ _)); refine blk_put (cs := #[.int .i64 ((rd_T55 l0 x44_2).f0.f0), .int .i64 ((rd_T55 l0 x44_2).f0.f1), .int .i64 ((rd_T55 l0 x44_2).f0.f2), .int .i64 0, .int .i64 0, .int .i64 0, .int .i64 0, .int .i64 0, .int .i64 0]) ?_ 3 _ rfl; (with_reducible repeat (first | refine blk_drewN ?_ _ | refine blk_drew ?_ | refine blk_alloc ?_ _)); refine blk_put (cs := #[.int .i64 ((rd_T55 l0 x44_2).f0.f0), .int .i64 ((rd_T55 l0 x44_2).f0.f1), .int .i64 0, .int .i64 0, .int .i64 0, .int .i64 0, .int .i64 0, .int .i64 0, .int .i64 0]) ?_ 2 _ rfl; (with_reducible repeat (first | refine blk_drewN ?_ _ | refine blk_drew ?_ | refine blk_alloc ?_ _)); refine blk_put (cs := #[.int .i64 ((rd_T55 l0 x44_2).f0.f0), .int .i64 0, .int .i64 0, .int .i64 0, .int .i64 0, .int .i64 0, .int .i64 0, .int .i64 0, .int .i64 0]) ?_ 1 _ rfl; (with_reducible repeat (first | refine blk_drewN ?_ _ | refine blk_drew ?_ | refine blk_alloc ?_ _)); refine blk_put (cs := #[.int .i64 0, .int .i64 0, .int .i64 0, .int .i64 0, .int .i64 0, .int .i64 0, .int .i64 0, .int .i64 0, .int .i64 0]) ?_ 0 _ rfl; (with_reducible repeat (first | refine blk_drewN ?_ _ | refine blk_drew ?_ | refine blk_alloc ?_ _)); exact BK162.out) hb); have n2_ := Aside0.mk (below_step (by repeat (first | (with_reducible first | exact HB.out | apply below_alloc | apply pw_below_drewN | apply below_drew1 | refine below_set ?_ GE156.out | refine below_set ?_ GE162.out) | exact HB.out)) hb); clear BK156; clear BK162; clear HB; have BK156 := n0_; have BK162 := n1_; have HB := n2_; clear n0_ n1_ n2_; (try clear hb); (try clear hb2); (try clear hk); (try clear hi); have hcz52_0 : w51.cell? ⟨gb162, 0, none⟩ = some (.int .i64 ((rd_T55 l0 x44_2).f0.f0)) := (blk_cell BK162.out 0).trans rfl; have hcz52_1 : w51.cell? ⟨gb162, 1, none⟩ = some (.int .i64 ((rd_T55 l0 x44_2).f0.f1)) := (blk_cell BK162.out 1).trans rfl; have hcz52_2 : w51.cell? ⟨gb162, 2, none⟩ = some (.int .i64 ((rd_T55 l0 x44_2).f0.f2)) := (blk_cell BK162.out 2).trans rfl; have hcz52_3 : w51.cell? ⟨gb162, 3, none⟩ = some (.int .i64 ((rd_T55 l0 x44_2).f1.f0)) := (blk_cell BK162.out 3).trans rfl; have hcz52_4 : w51.cell? ⟨gb162, 4, none⟩ = some (.int .i64 ((rd_T55 l0 x44_2).f1.f1)) := (blk_cell BK162.out 4).trans rfl; have hcz52_5 : w51.cell? ⟨gb162, 5, none⟩ = some (.int .i64 ((rd_T55 l0 x44_2).f1.f2)) := (blk_cell BK162.out 5).trans rfl; have hcz52_6 : w51.cell? ⟨gb162, 6, none⟩ = some (.int .i64 ((rd_T55 l0 x44_2).f2)) := (blk_cell BK162.out 6).trans rfl; have hcz52_7 : w51.cell? ⟨gb162, 7, none⟩ = some (.int .i64 ((rd_T55 l0 x44_2).f3)) := (blk_cell BK162.out 7).trans rfl; have hcz52_8 : w51.cell? ⟨gb162, 8, none⟩ = some (.int .i64 ((rd_T55 l0 x44_2).f4)) := (blk_cell BK162.out 8).trans rfl; have hfz52_0 := blk_frozen BK162.out 0; have hfz52_1 := blk_frozen BK162.out 1; have hfz52_2 := blk_frozen BK162.out 2; have hfz52_3 := blk_frozen BK162.out 3; have hfz52_4 := blk_frozen BK162.out 4; have hfz52_5 := blk_frozen BK162.out 5; have hfz52_6 := blk_frozen BK162.out 6; have hfz52_7 := blk_frozen BK162.out 7; have hfz52_8 := blk_frozen BK162.out 8) | (go_at_call 36; (with_reducible refine (controller_far.calls ((rd_T55 l0 x44_2).f1.f0) ((rd_T55 l0 x44_2).f1.f1) ((rd_T55 l0 x44_2).f1.f2) true _ A46.out).mono ?_); rintro e w53 ⟨rfl, hb⟩; have n0_ := Aside0.mk (blk_below (g := gb156) (o := .cells #[.int .i64 a1_0, .int .i64 a1_1, .int .i64 a1_2] 31 (0, 0)) (by (with_reducible repeat (first | refine blk_drewN ?_ _ | refine blk_drew ?_ | refine blk_alloc ?_ _)); exact BK156.out) hb); have n1_ := Aside0.mk (blk_below (g := gb162) (o := .cells #[.int .i64 ((rd_T55 l0 x44_2).f0.f0), .int .i64 ((rd_T55 l0 x44_2).f0.f1), .int .i64 ((rd_T55 l0 x44_2).f0.f2), .int .i64 ((rd_T55 l0 x44_2).f1.f0), .int .i64 ((rd_T55 l0 x44_2).f1.f1), .int .i64 ((rd_T55 l0 x44_2).f1.f2), .int .i64 ((rd_T55 l0 x44_2).f2), .int .i64 ((rd_T55 l0 x44_2).f3), .int .i64 ((rd_T55 l0 x44_2).f4)] 55 (0, 0)) (by (with_reducible repeat (first | refine blk_drewN ?_ _ | refine blk_drew ?_ | refine blk_alloc ?_ _)); exact BK162.out) hb); have n2_ := Aside0.mk (below_step (by repeat (first | (with_reducible first | exact HB.out | apply below_alloc | apply pw_below_drewN | apply below_drew1 | refine below_set ?_ GE156.out | refine below_set ?_ GE162.out) | exact HB.out)) hb); clear BK156; clear BK162; clear HB; have BK156 := n0_; have BK162 := n1_; have HB := n2_; clear n0_ n1_ n2_; (try clear hb); (try clear hb2); (try clear hk); (try clear hi)))
            go_ret
            exact ⟨by first | rfl | (simp [errW_none, errW_some] <;> rfl) | (simp [*, errW_none, errW_some] <;> rfl), by repeat (first | (with_reducible first | exact HB.out | apply below_alloc | apply pw_below_drewN | apply below_drew1 | refine below_set ?_ GE156.out | refine below_set ?_ GE162.out) | exact HB.out)⟩
           ·replace c47 := Bool.eq_false_iff.mpr c47
            subst c47
            have H1 : (controller_check.l1 k2 l0 l0 (l0.length : Int) (wrap64 (x44_2 + 1)) a1_0 a1_1 a1_2) = some r := by rw [if_neg (show ¬ (false = true) by decide)] at H; exact H
            clear H
            have H := H1
            clear H1
            have H' := Aside0.mk H
            clear H
            have p161 : 0 ≤ (x44_2 : Int) := of_decide_eq_true (by first | (with_reducible assumption) | assumption)
            have q161 : x44_2 < (l0.length : Int) := of_decide_eq_true (by first | (with_reducible assumption) | assumption)
            obtain ⟨ad161, e161, hx161_0, hx161_1, hx161_2, hx161_3, hx161_4, hx161_5, hx161_6, hx161_7, hx161_8⟩ := at_T55 HR0.out x44_2 p161 q161
            cases e161
            replace hx161_0 := (HB.out.cell (World.block_lt_of_cell? w _ hx161_0)).trans hx161_0
            replace hx161_1 := (HB.out.cell (World.block_lt_of_cell? w _ hx161_1)).trans hx161_1
            replace hx161_2 := (HB.out.cell (World.block_lt_of_cell? w _ hx161_2)).trans hx161_2
            replace hx161_3 := (HB.out.cell (World.block_lt_of_cell? w _ hx161_3)).trans hx161_3
            replace hx161_4 := (HB.out.cell (World.block_lt_of_cell? w _ hx161_4)).trans hx161_4
            replace hx161_5 := (HB.out.cell (World.block_lt_of_cell? w _ hx161_5)).trans hx161_5
            replace hx161_6 := (HB.out.cell (World.block_lt_of_cell? w _ hx161_6)).trans hx161_6
            replace hx161_7 := (HB.out.cell (World.block_lt_of_cell? w _ hx161_7)).trans hx161_7
            replace hx161_8 := (HB.out.cell (World.block_lt_of_cell? w _ hx161_8)).trans hx161_8
            replace p161 := eq_true p161
            replace q161 := eq_true q161
            go_wp2_with (first | ((with_reducible refine gate_dst (N := 8) rfl ?_); refine box_event ?hg (N := 8) ?hd (cs := #[.int .i64 0, .int .i64 0, .int .i64 0, .int .i64 0, .int .i64 0, .int .i64 0, .int .i64 0, .int .i64 0, .int .i64 0]) (t := 55) ?hr ?_; (case hd => rfl); (case hg => rfl); (case hr => first | (go_simp; done) | (go_simp; rfl)); intro gb162 hg w54 hbox hb; have n0_ := Aside0.mk (blk_below (g := gb156) (o := .cells #[.int .i64 a1_0, .int .i64 a1_1, .int .i64 a1_2] 31 (0, 0)) (by (with_reducible repeat (first | refine blk_drewN ?_ _ | refine blk_drew ?_ | refine blk_alloc ?_ _)); exact BK156.out) hb); have n1_ := Aside0.mk (below_step (by repeat (first | (with_reducible first | exact HB.out | apply below_alloc | apply pw_below_drewN | apply below_drew1 | refine below_set ?_ GE156.out) | exact HB.out)) hb); have n2_ := Aside0.mk (hbox); have n3_ := Aside0.mk ((by rw [hg]; exact (below_size (by repeat (first | (with_reducible first | exact HB.out | apply below_alloc | apply pw_below_drewN | apply below_drew1 | refine below_set ?_ GE156.out) | exact HB.out))) : w.heap.size ≤ gb162)); have n4_ := Aside0.mk ((by rw [hg]; exact (below_size (by repeat (first | (with_reducible first | exact HB.out | apply below_alloc | apply pw_below_drewN | apply below_drew1 | refine below_set ?_ GE156.out) | exact HB.out))) : w.heap.size ≤ gb162)); have n5_ := Aside0.mk ((by rw [hg]; exact Nat.ne_of_lt (blk_lt (g := gb156) (o := .cells #[.int .i64 a1_0, .int .i64 a1_1, .int .i64 a1_2] 31 (0, 0)) (by (with_reducible repeat (first | refine blk_drewN ?_ _ | refine blk_drew ?_ | refine blk_alloc ?_ _)); exact BK156.out)) : gb156 ≠ gb162)); have n6_ := Aside0.mk ((by rw [hg]; exact Nat.ne_of_gt (blk_lt (g := gb156) (o := .cells #[.int .i64 a1_0, .int .i64 a1_1, .int .i64 a1_2] 31 (0, 0)) (by (with_reducible repeat (first | refine blk_drewN ?_ _ | refine blk_drew ?_ | refine blk_alloc ?_ _)); exact BK156.out)) : gb162 ≠ gb156)); clear BK156; clear HB; have BK156 := n0_; have HB := n1_; have BK162 := n2_; have GW162 := n3_; have GE162 := n4_; have NB156_162 := n5_; have NB162_156 := n6_; clear n0_ n1_ n2_ n3_ n4_ n5_ n6_; clear hb hbox hg; have hnb55 := NB162_156.out; have hnc55 := NB156_162.out; have hcz56_0 : w54.cell? ⟨gb162, 0, none⟩ = some (.int .i64 0) := (blk_cell BK162.out 0).trans rfl; have hcz56_1 : w54.cell? ⟨gb162, 1, none⟩ = some (.int .i64 0) := (blk_cell BK162.out 1).trans rfl; have hcz56_2 : w54.cell? ⟨gb162, 2, none⟩ = some (.int .i64 0) := (blk_cell BK162.out 2).trans rfl; have hcz56_3 : w54.cell? ⟨gb162, 3, none⟩ = some (.int .i64 0) := (blk_cell BK162.out 3).trans rfl; have hcz56_4 : w54.cell? ⟨gb162, 4, none⟩ = some (.int .i64 0) := (blk_cell BK162.out 4).trans rfl; have hcz56_5 : w54.cell? ⟨gb162, 5, none⟩ = some (.int .i64 0) := (blk_cell BK162.out 5).trans rfl; have hcz56_6 : w54.cell? ⟨gb162, 6, none⟩ = some (.int .i64 0) := (blk_cell BK162.out 6).trans rfl; have hcz56_7 : w54.cell? ⟨gb162, 7, none⟩ = some (.int .i64 0) := (blk_cell BK162.out 7).trans rfl; have hcz56_8 : w54.cell? ⟨gb162, 8, none⟩ = some (.int .i64 0) := (blk_cell BK162.out 8).trans rfl; have hfz56_0 := blk_frozen BK162.out 0; have hfz56_1 := blk_frozen BK162.out 1; have hfz56_2 := blk_frozen BK162.out 2; have hfz56_3 := blk_frozen BK162.out 3; have hfz56_4 := blk_frozen BK162.out 4; have hfz56_5 := blk_frozen BK162.out 5; have hfz56_6 := blk_frozen BK162.out 6; have hfz56_7 := blk_frozen BK162.out 7; have hfz56_8 := blk_frozen BK162.out 8) | ((with_reducible refine gate_callee (f := 36) rfl ?_); refine goesL_ (some 50) rfl rfl Try.func36 (by kernel_rfl) rfl #[.agg #[.int .i64 ((rd_T55 l0 x44_2).f0.f0), .int .i64 ((rd_T55 l0 x44_2).f0.f1), .int .i64 ((rd_T55 l0 x44_2).f0.f2)]] rfl (by (try simp only [List.map_toArray, List.map_cons, List.map_nil]); first | done | rfl | (simp only [List.length_drop, List.length_take]; rfl)) ?_; (with_reducible refine (controller_far.calls ((rd_T55 l0 x44_2).f0.f0) ((rd_T55 l0 x44_2).f0.f1) ((rd_T55 l0 x44_2).f0.f2) false _ A40.out).mono ?_); rintro e w57 ⟨rfl, hb⟩; refine ⟨_, rfl, ?_⟩; have n0_ := Aside0.mk (blk_below (g := gb156) (o := .cells #[.int .i64 a1_0, .int .i64 a1_1, .int .i64 a1_2] 31 (0, 0)) (by (with_reducible repeat (first | refine blk_drewN ?_ _ | refine blk_drew ?_ | refine blk_alloc ?_ _)); refine blk_far ?_ NB156_162.out _; (with_reducible repeat (first | refine blk_drewN ?_ _ | refine blk_drew ?_ | refine blk_alloc ?_ _)); refine blk_far ?_ NB156_162.out _; (with_reducible repeat (first | refine blk_drewN ?_ _ | refine blk_drew ?_ | refine blk_alloc ?_ _)); refine blk_far ?_ NB156_162.out _; (with_reducible repeat (first | refine blk_drewN ?_ _ | refine blk_drew ?_ | refine blk_alloc ?_ _)); refine blk_far ?_ NB156_162.out _; (with_reducible repeat (first | refine blk_drewN ?_ _ | refine blk_drew ?_ | refine blk_alloc ?_ _)); refine blk_far ?_ NB156_162.out _; (with_reducible repeat (first | refine blk_drewN ?_ _ | refine blk_drew ?_ | refine blk_alloc ?_ _)); refine blk_far ?_ NB156_162.out _; (with_reducible repeat (first | refine blk_drewN ?_ _ | refine blk_drew ?_ | refine blk_alloc ?_ _)); refine blk_far ?_ NB156_162.out _; (with_reducible repeat (first | refine blk_drewN ?_ _ | refine blk_drew ?_ | refine blk_alloc ?_ _)); refine blk_far ?_ NB156_162.out _; (with_reducible repeat (first | refine blk_drewN ?_ _ | refine blk_drew ?_ | refine blk_alloc ?_ _)); refine blk_far ?_ NB156_162.out _; (with_reducible repeat (first | refine blk_drewN ?_ _ | refine blk_drew ?_ | refine blk_alloc ?_ _)); exact BK156.out) hb); have n1_ := Aside0.mk (blk_below (g := gb162) (o := .cells #[.int .i64 ((rd_T55 l0 x44_2).f0.f0), .int .i64 ((rd_T55 l0 x44_2).f0.f1), .int .i64 ((rd_T55 l0 x44_2).f0.f2), .int .i64 ((rd_T55 l0 x44_2).f1.f0), .int .i64 ((rd_T55 l0 x44_2).f1.f1), .int .i64 ((rd_T55 l0 x44_2).f1.f2), .int .i64 ((rd_T55 l0 x44_2).f2), .int .i64 ((rd_T55 l0 x44_2).f3), .int .i64 ((rd_T55 l0 x44_2).f4)] 55 (0, 0)) (by (with_reducible repeat (first | refine blk_drewN ?_ _ | refine blk_drew ?_ | refine blk_alloc ?_ _)); refine blk_put (cs := #[.int .i64 ((rd_T55 l0 x44_2).f0.f0), .int .i64 ((rd_T55 l0 x44_2).f0.f1), .int .i64 ((rd_T55 l0 x44_2).f0.f2), .int .i64 ((rd_T55 l0 x44_2).f1.f0), .int .i64 ((rd_T55 l0 x44_2).f1.f1), .int .i64 ((rd_T55 l0 x44_2).f1.f2), .int .i64 ((rd_T55 l0 x44_2).f2), .int .i64 ((rd_T55 l0 x44_2).f3), .int .i64 0]) ?_ 8 _ rfl; (with_reducible repeat (first | refine blk_drewN ?_ _ | refine blk_drew ?_ | refine blk_alloc ?_ _)); refine blk_put (cs := #[.int .i64 ((rd_T55 l0 x44_2).f0.f0), .int .i64 ((rd_T55 l0 x44_2).f0.f1), .int .i64 ((rd_T55 l0 x44_2).f0.f2), .int .i64 ((rd_T55 l0 x44_2).f1.f0), .int .i64 ((rd_T55 l0 x44_2).f1.f1), .int .i64 ((rd_T55 l0 x44_2).f1.f2), .int .i64 ((rd_T55 l0 x44_2).f2), .int .i64 0, .int .i64 0]) ?_ 7 _ rfl; (with_reducible repeat (first | refine blk_drewN ?_ _ | refine blk_drew ?_ | refine blk_alloc ?_ _)); refine blk_put (cs := #[.int .i64 ((rd_T55 l0 x44_2).f0.f0), .int .i64 ((rd_T55 l0 x44_2).f0.f1), .int .i64 ((rd_T55 l0 x44_2).f0.f2), .int .i64 ((rd_T55 l0 x44_2).f1.f0), .int .i64 ((rd_T55 l0 x44_2).f1.f1), .int .i64 ((rd_T55 l0 x44_2).f1.f2), .int .i64 0, .int .i64 0, .int .i64 0]) ?_ 6 _ rfl; (with_reducible repeat (first | refine blk_drewN ?_ _ | refine blk_drew ?_ | refine blk_alloc ?_ _)); refine blk_put (cs := #[.int .i64 ((rd_T55 l0 x44_2).f0.f0), .int .i64 ((rd_T55 l0 x44_2).f0.f1), .int .i64 ((rd_T55 l0 x44_2).f0.f2), .int .i64 ((rd_T55 l0 x44_2).f1.f0), .int .i64 ((rd_T55 l0 x44_2).f1.f1), .int .i64 0, .int .i64 0, .int .i64 0, .int .i64 0]) ?_ 5 _ rfl; (with_reducible repeat (first | refine blk_drewN ?_ _ | refine blk_drew ?_ | refine blk_alloc ?_ _)); refine blk_put (cs := #[.int .i64 ((rd_T55 l0 x44_2).f0.f0), .int .i64 ((rd_T55 l0 x44_2).f0.f1), .int .i64 ((rd_T55 l0 x44_2).f0.f2), .int .i64 ((rd_T55 l0 x44_2).f1.f0), .int .i64 0, .int .i64 0, .int .i64 0, .int .i64 0, .int .i64 0]) ?_ 4 _ rfl; (with_reducible repeat (first | refine blk_drewN ?_ _ | refine blk_drew ?_ | refine blk_alloc ?_ _)); refine blk_put (cs := #[.int .i64 ((rd_T55 l0 x44_2).f0.f0), .int .i64 ((rd_T55 l0 x44_2).f0.f1), .int .i64 ((rd_T55 l0 x44_2).f0.f2), .int .i64 0, .int .i64 0, .int .i64 0, .int .i64 0, .int .i64 0, .int .i64 0]) ?_ 3 _ rfl; (with_reducible repeat (first | refine blk_drewN ?_ _ | refine blk_drew ?_ | refine blk_alloc ?_ _)); refine blk_put (cs := #[.int .i64 ((rd_T55 l0 x44_2).f0.f0), .int .i64 ((rd_T55 l0 x44_2).f0.f1), .int .i64 0, .int .i64 0, .int .i64 0, .int .i64 0, .int .i64 0, .int .i64 0, .int .i64 0]) ?_ 2 _ rfl; (with_reducible repeat (first | refine blk_drewN ?_ _ | refine blk_drew ?_ | refine blk_alloc ?_ _)); refine blk_put (cs := #[.int .i64 ((rd_T55 l0 x44_2).f0.f0), .int .i64 0, .int .i64 0, .int .i64 0, .int .i64 0, .int .i64 0, .int .i64 0, .int .i64 0, .int .i64 0]) ?_ 1 _ rfl; (with_reducible repeat (first | refine blk_drewN ?_ _ | refine blk_drew ?_ | refine blk_alloc ?_ _)); refine blk_put (cs := #[.int .i64 0, .int .i64 0, .int .i64 0, .int .i64 0, .int .i64 0, .int .i64 0, .int .i64 0, .int .i64 0, .int .i64 0]) ?_ 0 _ rfl; (with_reducible repeat (first | refine blk_drewN ?_ _ | refine blk_drew ?_ | refine blk_alloc ?_ _)); exact BK162.out) hb); have n2_ := Aside0.mk (below_step (by repeat (first | (with_reducible first | exact HB.out | apply below_alloc | apply pw_below_drewN | apply below_drew1 | refine below_set ?_ GE156.out | refine below_set ?_ GE162.out) | exact HB.out)) hb); clear BK156; clear BK162; clear HB; have BK156 := n0_; have BK162 := n1_; have HB := n2_; clear n0_ n1_ n2_; (try clear hb); (try clear hb2); (try clear hk); (try clear hi); have hcz58_0 : w57.cell? ⟨gb162, 0, none⟩ = some (.int .i64 ((rd_T55 l0 x44_2).f0.f0)) := (blk_cell BK162.out 0).trans rfl; have hcz58_1 : w57.cell? ⟨gb162, 1, none⟩ = some (.int .i64 ((rd_T55 l0 x44_2).f0.f1)) := (blk_cell BK162.out 1).trans rfl; have hcz58_2 : w57.cell? ⟨gb162, 2, none⟩ = some (.int .i64 ((rd_T55 l0 x44_2).f0.f2)) := (blk_cell BK162.out 2).trans rfl; have hcz58_3 : w57.cell? ⟨gb162, 3, none⟩ = some (.int .i64 ((rd_T55 l0 x44_2).f1.f0)) := (blk_cell BK162.out 3).trans rfl; have hcz58_4 : w57.cell? ⟨gb162, 4, none⟩ = some (.int .i64 ((rd_T55 l0 x44_2).f1.f1)) := (blk_cell BK162.out 4).trans rfl; have hcz58_5 : w57.cell? ⟨gb162, 5, none⟩ = some (.int .i64 ((rd_T55 l0 x44_2).f1.f2)) := (blk_cell BK162.out 5).trans rfl; have hcz58_6 : w57.cell? ⟨gb162, 6, none⟩ = some (.int .i64 ((rd_T55 l0 x44_2).f2)) := (blk_cell BK162.out 6).trans rfl; have hcz58_7 : w57.cell? ⟨gb162, 7, none⟩ = some (.int .i64 ((rd_T55 l0 x44_2).f3)) := (blk_cell BK162.out 7).trans rfl; have hcz58_8 : w57.cell? ⟨gb162, 8, none⟩ = some (.int .i64 ((rd_T55 l0 x44_2).f4)) := (blk_cell BK162.out 8).trans rfl; have hfz58_0 := blk_frozen BK162.out 0; have hfz58_1 := blk_frozen BK162.out 1; have hfz58_2 := blk_frozen BK162.out 2; have hfz58_3 := blk_frozen BK162.out 3; have hfz58_4 := blk_frozen BK162.out 4; have hfz58_5 := blk_frozen BK162.out 5; have hfz58_6 := blk_frozen BK162.out 6; have hfz58_7 := blk_frozen BK162.out 7; have hfz58_8 := blk_frozen BK162.out 8) | (go_at_call 36; (with_reducible refine (controller_far.calls ((rd_T55 l0 x44_2).f1.f0) ((rd_T55 l0 x44_2).f1.f1) ((rd_T55 l0 x44_2).f1.f2) false _ A46.out).mono ?_); rintro e w59 ⟨rfl, hb⟩; have n0_ := Aside0.mk (blk_below (g := gb156) (o := .cells #[.int .i64 a1_0, .int .i64 a1_1, .int .i64 a1_2] 31 (0, 0)) (by (with_reducible repeat (first | refine blk_drewN ?_ _ | refine blk_drew ?_ | refine blk_alloc ?_ _)); exact BK156.out) hb); have n1_ := Aside0.mk (blk_below (g := gb162) (o := .cells #[.int .i64 ((rd_T55 l0 x44_2).f0.f0), .int .i64 ((rd_T55 l0 x44_2).f0.f1), .int .i64 ((rd_T55 l0 x44_2).f0.f2), .int .i64 ((rd_T55 l0 x44_2).f1.f0), .int .i64 ((rd_T55 l0 x44_2).f1.f1), .int .i64 ((rd_T55 l0 x44_2).f1.f2), .int .i64 ((rd_T55 l0 x44_2).f2), .int .i64 ((rd_T55 l0 x44_2).f3), .int .i64 ((rd_T55 l0 x44_2).f4)] 55 (0, 0)) (by (with_reducible repeat (first | refine blk_drewN ?_ _ | refine blk_drew ?_ | refine blk_alloc ?_ _)); exact BK162.out) hb); have n2_ := Aside0.mk (below_step (by repeat (first | (with_reducible first | exact HB.out | apply below_alloc | apply pw_below_drewN | apply below_drew1 | refine below_set ?_ GE156.out | refine below_set ?_ GE162.out) | exact HB.out)) hb); clear BK156; clear BK162; clear HB; have BK156 := n0_; have BK162 := n1_; have HB := n2_; clear n0_ n1_ n2_; (try clear hb); (try clear hb2); (try clear hk); (try clear hi)))
            go_roundg k2
            case measure => have := HK1.out; have := HK2.out; omega
            case rel => exact ⟨(wrap64 (x44_2 + 1)), (by first | rfl | (simp; done) | (simp [*]; done)), H', ⟨by have := HK1.out; have := HK2.out; omega⟩, ⟨by (with_reducible repeat (first | refine blk_drewN ?_ _ | refine blk_drew ?_ | refine blk_alloc ?_ _)); exact BK156.out⟩, ⟨by repeat (first | (with_reducible first | exact HB.out | apply below_alloc | apply pw_below_drewN | apply below_drew1 | refine below_set ?_ GE156.out | refine below_set ?_ GE162.out) | exact HB.out)⟩⟩
         ·rw [if_neg c39] at H
          exact absurd H (by simp)
        ·rw [if_neg c38] at H
         exact absurd H (by simp)
       ·rw [if_neg c37] at H
        have c37b0 : decide (x44_2 < (l0.length : Int)) = false := decide_eq_false c37
        clear c37
        by_cases c60 : (l0.length : Int) > 20000
        ·rw [if_pos c60] at H
         have c60b0 : decide (20000 < (l0.length : Int)) = true := decide_eq_true c60
         have c60b1 : decide (20000 < l0.length) = true := decide_eq_true (by omega)
         clear c60
         obtain rfl := Option.some.inj H
         go_wp2
         go_ret
         exact ⟨by first | rfl | (simp [errW_none, errW_some] <;> rfl) | (simp [*, errW_none, errW_some] <;> rfl), by repeat (first | (with_reducible first | exact HB.out | apply below_alloc | apply pw_below_drewN | apply below_drew1 | refine below_set ?_ GE156.out) | exact HB.out)⟩
        ·rw [if_neg c60] at H
         have c60b0 : decide (20000 < (l0.length : Int)) = false := decide_eq_false c60
         have c60b1 : decide (20000 < l0.length) = false := decide_eq_false (by omega)
         clear c60
         have H' := Aside0.mk H
         clear H
         go_wp2
         go_loopg [62] k2 (fun kq v62 w' => ∃ (x62_3 : Int), v62 = .int .i64 x62_3 ∧ Aside0 (controller_check.l2 kq l0 (l0.length : Int) x62_3 a1_0 a1_1 a1_2 = some r) ∧ Aside0 (kq ≤ k2) ∧ Aside0 (w'.heap[gb156]? = some (.cells #[.int .i64 a1_0, .int .i64 a1_1, .int .i64 a1_2] 31 (0, 0))) ∧ Aside0 (Below w.heap.size w w'))
         case atStart => exact ⟨(0), (by first | rfl | (simp; done) | (simp [*]; done)), H', ⟨Nat.le_refl _⟩, ⟨by (with_reducible repeat (first | refine blk_drewN ?_ _ | refine blk_drew ?_ | refine blk_alloc ?_ _)); exact BK156.out⟩, ⟨by repeat (first | (with_reducible first | exact HB.out | apply below_alloc | apply pw_below_drewN | apply below_drew1 | refine below_set ?_ GE156.out) | exact HB.out)⟩⟩
         case round =>
          clear H'
          try clear c1
          try clear p1
          try clear q1
          try clear hx1
          try clear c2
          try clear p2
          try clear c3
          try clear c4
          try clear c5
          try clear c6
          try clear p6
          try clear c8
          try clear c8b0
          try clear c9
          try clear c10
          try clear p15
          try clear q15
          try clear hx15
          try clear p16
          try clear q16
          try clear hx16
          try clear c17
          try clear c17b0
          try clear c19
          try clear c20
          try clear c21
          try clear c21b0
          try clear c23
          try clear c28
          try clear c33
          try clear c36
          try clear c37
          try clear c37b0
          try clear c38
          try clear c38b0
          try clear c39
          try clear c39b0
          try clear c41
          try clear c43
          try clear c47
          try clear c49
          try clear c55
          try clear c60
          try clear c60b0
          try clear c60b1
          try clear hx158_0
          try clear hx158_1
          try clear hx158_2
          try clear hx158_3
          try clear hx158_4
          try clear hx158_5
          try clear hx158_6
          try clear hx158_7
          try clear hx158_8
          try clear hx160_0
          try clear hx160_1
          try clear hx160_2
          try clear hx160_3
          try clear hx160_4
          try clear hx160_5
          try clear hx160_6
          try clear hx160_7
          try clear hx160_8
          try clear hx161_0
          try clear hx161_1
          try clear hx161_2
          try clear hx161_3
          try clear hx161_4
          try clear hx161_5
          try clear hx161_6
          try clear hx161_7
          try clear hx161_8
          try clear p1
          try clear p15
          try clear p158
          try clear p16
          try clear p160
          try clear p161
          try clear p2
          try clear p6
          try clear q1
          try clear q15
          try clear q158
          try clear q16
          try clear q160
          try clear q161
          obtain ⟨x62_3, rfl, HA, HK3, BK156, HB⟩ := hrel
          cases gk with
          | zero => exact absurd HA.out (by simp [controller_check.l2])
          | succ k3 =>
           have H := HA.out
           clear HA
           simp only [controller_check.l2] at H
           by_cases c61 : x62_3 < (l0.length : Int)
           ·rw [if_pos c61] at H
            have c61b0 : decide (x62_3 < (l0.length : Int)) = true := decide_eq_true c61
            clear c61
            by_cases c62 : 0 ≤ x62_3
            ·rw [if_pos c62] at H
             have c62b0 : decide (0 ≤ x62_3) = true := decide_eq_true c62
             clear c62
             by_cases c63 : x62_3 < (l0.length : Int)
             ·rw [if_pos c63] at H
              have c63b0 : decide (x62_3 < (l0.length : Int)) = true := decide_eq_true c63
              clear c63
              replace H := Option.bind_eq_some_iff.mp H
              obtain ⟨t167, A640, H⟩ := H
              replace H : ((controller_limit.f ((rd_T55 l0 x62_3).f0.f0) ((rd_T55 l0 x62_3).f0.f1) ((rd_T55 l0 x62_3).f0.f2) ((rd_T55 l0 x62_3).f1.f0) ((rd_T55 l0 x62_3).f1.f1) ((rd_T55 l0 x62_3).f1.f2) ((rd_T55 l0 x62_3).f2) ((rd_T55 l0 x62_3).f3) ((rd_T55 l0 x62_3).f4) a1_0 a1_1 a1_2).bind fun bt168 => ((profile_Steps.f k3 t167 bt168.1 bt168.2.1 bt168.2.2).bind fun bt171 => (if bt171.2 = 0 then (controller_check.l2 k3 l0 (l0.length : Int) (wrap64 (x62_3 + 1)) a1_0 a1_1 a1_2) else (some bt171.2)))) = some r := H
              have A64 := Aside0.mk A640
              clear A640
              replace H := Option.bind_eq_some_iff.mp H
              obtain ⟨⟨t168, t169, t170⟩, A650, H⟩ := H
              replace H : ((profile_Steps.f k3 t167 t168 t169 t170).bind fun bt171 => (if bt171.2 = 0 then (controller_check.l2 k3 l0 (l0.length : Int) (wrap64 (x62_3 + 1)) a1_0 a1_1 a1_2) else (some bt171.2))) = some r := H
              have A65 := Aside0.mk A650
              clear A650
              replace H := Option.bind_eq_some_iff.mp H
              obtain ⟨⟨t171, t174⟩, A660, H⟩ := H
              replace H : (if t174 = 0 then (controller_check.l2 k3 l0 (l0.length : Int) (wrap64 (x62_3 + 1)) a1_0 a1_1 a1_2) else (some t174)) = some r := H
              have A66 := Aside0.mk A660
              clear A660
              by_cases c67 : t174 = 0
              ·rw [if_pos c67] at H
               have c67b0 : (t174 == 0) = true := beq_iff_eq.mpr c67
               have c67b1 : (t174 != 0) = false := bne_eq_false_iff_eq.mpr c67
               clear c67
               have H' := Aside0.mk H
               clear H
               have p165 : 0 ≤ (x62_3 : Int) := of_decide_eq_true (by first | (with_reducible assumption) | assumption)
               have q165 : x62_3 < (l0.length : Int) := of_decide_eq_true (by first | (with_reducible assumption) | assumption)
               obtain ⟨ad165, e165, hx165_0, hx165_1, hx165_2, hx165_3, hx165_4, hx165_5, hx165_6, hx165_7, hx165_8⟩ := at_T55 HR0.out x62_3 p165 q165
               cases e165
               replace hx165_0 := (HB.out.cell (World.block_lt_of_cell? w _ hx165_0)).trans hx165_0
               replace hx165_1 := (HB.out.cell (World.block_lt_of_cell? w _ hx165_1)).trans hx165_1
               replace hx165_2 := (HB.out.cell (World.block_lt_of_cell? w _ hx165_2)).trans hx165_2
               replace hx165_3 := (HB.out.cell (World.block_lt_of_cell? w _ hx165_3)).trans hx165_3
               replace hx165_4 := (HB.out.cell (World.block_lt_of_cell? w _ hx165_4)).trans hx165_4
               replace hx165_5 := (HB.out.cell (World.block_lt_of_cell? w _ hx165_5)).trans hx165_5
               replace hx165_6 := (HB.out.cell (World.block_lt_of_cell? w _ hx165_6)).trans hx165_6
               replace hx165_7 := (HB.out.cell (World.block_lt_of_cell? w _ hx165_7)).trans hx165_7
               replace hx165_8 := (HB.out.cell (World.block_lt_of_cell? w _ hx165_8)).trans hx165_8
               replace p165 := eq_true p165
               replace q165 := eq_true q165
               try go_wp2_with (first | ((with_reducible refine gate_dst (N := 10) rfl ?_); refine box_event ?hg (N := 10) ?hd (cs := #[.int .i64 0, .int .i64 0, .int .i64 0, .int .i64 0, .int .i64 0, .int .i64 0, .int .i64 0, .int .i64 0, .int .i64 0]) (t := 55) ?hr ?_; (case hd => rfl); (case hg => rfl); (case hr => first | (go_simp; done) | (go_simp; rfl)); intro gb166 hg w68 hbox hb; have n0_ := Aside0.mk (blk_below (g := gb156) (o := .cells #[.int .i64 a1_0, .int .i64 a1_1, .int .i64 a1_2] 31 (0, 0)) (by (with_reducible repeat (first | refine blk_drewN ?_ _ | refine blk_drew ?_ | refine blk_alloc ?_ _)); exact BK156.out) hb); have n1_ := Aside0.mk (below_step (by repeat (first | (with_reducible first | exact HB.out | apply below_alloc | apply pw_below_drewN | apply below_drew1 | refine below_set ?_ GE156.out) | exact HB.out)) hb); have n2_ := Aside0.mk (hbox); have n3_ := Aside0.mk ((by rw [hg]; exact (below_size (by repeat (first | (with_reducible first | exact HB.out | apply below_alloc | apply pw_below_drewN | apply below_drew1 | refine below_set ?_ GE156.out) | exact HB.out))) : w.heap.size ≤ gb166)); have n4_ := Aside0.mk ((by rw [hg]; exact (below_size (by repeat (first | (with_reducible first | exact HB.out | apply below_alloc | apply pw_below_drewN | apply below_drew1 | refine below_set ?_ GE156.out) | exact HB.out))) : w.heap.size ≤ gb166)); have n5_ := Aside0.mk ((by rw [hg]; exact Nat.ne_of_lt (blk_lt (g := gb156) (o := .cells #[.int .i64 a1_0, .int .i64 a1_1, .int .i64 a1_2] 31 (0, 0)) (by (with_reducible repeat (first | refine blk_drewN ?_ _ | refine blk_drew ?_ | refine blk_alloc ?_ _)); exact BK156.out)) : gb156 ≠ gb166)); have n6_ := Aside0.mk ((by rw [hg]; exact Nat.ne_of_gt (blk_lt (g := gb156) (o := .cells #[.int .i64 a1_0, .int .i64 a1_1, .int .i64 a1_2] 31 (0, 0)) (by (with_reducible repeat (first | refine blk_drewN ?_ _ | refine blk_drew ?_ | refine blk_alloc ?_ _)); exact BK156.out)) : gb166 ≠ gb156)); clear BK156; clear HB; have BK156 := n0_; have HB := n1_; have BK166 := n2_; have GW166 := n3_; have GE166 := n4_; have NB156_166 := n5_; have NB166_156 := n6_; clear n0_ n1_ n2_ n3_ n4_ n5_ n6_; clear hb hbox hg; have hnb69 := NB166_156.out; have hnc69 := NB156_166.out; have hcz70_0 : w68.cell? ⟨gb166, 0, none⟩ = some (.int .i64 0) := (blk_cell BK166.out 0).trans rfl; have hcz70_1 : w68.cell? ⟨gb166, 1, none⟩ = some (.int .i64 0) := (blk_cell BK166.out 1).trans rfl; have hcz70_2 : w68.cell? ⟨gb166, 2, none⟩ = some (.int .i64 0) := (blk_cell BK166.out 2).trans rfl; have hcz70_3 : w68.cell? ⟨gb166, 3, none⟩ = some (.int .i64 0) := (blk_cell BK166.out 3).trans rfl; have hcz70_4 : w68.cell? ⟨gb166, 4, none⟩ = some (.int .i64 0) := (blk_cell BK166.out 4).trans rfl; have hcz70_5 : w68.cell? ⟨gb166, 5, none⟩ = some (.int .i64 0) := (blk_cell BK166.out 5).trans rfl; have hcz70_6 : w68.cell? ⟨gb166, 6, none⟩ = some (.int .i64 0) := (blk_cell BK166.out 6).trans rfl; have hcz70_7 : w68.cell? ⟨gb166, 7, none⟩ = some (.int .i64 0) := (blk_cell BK166.out 7).trans rfl; have hcz70_8 : w68.cell? ⟨gb166, 8, none⟩ = some (.int .i64 0) := (blk_cell BK166.out 8).trans rfl; have hfz70_0 := blk_frozen BK166.out 0; have hfz70_1 := blk_frozen BK166.out 1; have hfz70_2 := blk_frozen BK166.out 2; have hfz70_3 := blk_frozen BK166.out 3; have hfz70_4 := blk_frozen BK166.out 4; have hfz70_5 := blk_frozen BK166.out 5; have hfz70_6 := blk_frozen BK166.out 6; have hfz70_7 := blk_frozen BK166.out 7; have hfz70_8 := blk_frozen BK166.out 8))
               have n0_ : Aside0 ((((((((((w68.setCell ⟨gb166, 0, none⟩ (.int .i64 ((rd_T55 l0 x62_3).f0.f0))).setCell ⟨gb166, 1, none⟩ (.int .i64 ((rd_T55 l0 x62_3).f0.f1))).setCell ⟨gb166, 2, none⟩ (.int .i64 ((rd_T55 l0 x62_3).f0.f2))).setCell ⟨gb166, 3, none⟩ (.int .i64 ((rd_T55 l0 x62_3).f1.f0))).setCell ⟨gb166, 4, none⟩ (.int .i64 ((rd_T55 l0 x62_3).f1.f1))).setCell ⟨gb166, 5, none⟩ (.int .i64 ((rd_T55 l0 x62_3).f1.f2))).setCell ⟨gb166, 6, none⟩ (.int .i64 ((rd_T55 l0 x62_3).f2))).setCell ⟨gb166, 7, none⟩ (.int .i64 ((rd_T55 l0 x62_3).f3))).setCell ⟨gb166, 8, none⟩ (.int .i64 ((rd_T55 l0 x62_3).f4))).heap[gb156]? = some (.cells #[.int .i64 a1_0, .int .i64 a1_1, .int .i64 a1_2] 31 (0, 0))) := ⟨by (with_reducible repeat (first | refine blk_drewN ?_ _ | refine blk_drew ?_ | refine blk_alloc ?_ _)); refine blk_far ?_ NB156_166.out _; (with_reducible repeat (first | refine blk_drewN ?_ _ | refine blk_drew ?_ | refine blk_alloc ?_ _)); refine blk_far ?_ NB156_166.out _; (with_reducible repeat (first | refine blk_drewN ?_ _ | refine blk_drew ?_ | refine blk_alloc ?_ _)); refine blk_far ?_ NB156_166.out _; (with_reducible repeat (first | refine blk_drewN ?_ _ | refine blk_drew ?_ | refine blk_alloc ?_ _)); refine blk_far ?_ NB156_166.out _; (with_reducible repeat (first | refine blk_drewN ?_ _ | refine blk_drew ?_ | refine blk_alloc ?_ _)); refine blk_far ?_ NB156_166.out _; (with_reducible repeat (first | refine blk_drewN ?_ _ | refine blk_drew ?_ | refine blk_alloc ?_ _)); refine blk_far ?_ NB156_166.out _; (with_reducible repeat (first | refine blk_drewN ?_ _ | refine blk_drew ?_ | refine blk_alloc ?_ _)); refine blk_far ?_ NB156_166.out _; (with_reducible repeat (first | refine blk_drewN ?_ _ | refine blk_drew ?_ | refine blk_alloc ?_ _)); refine blk_far ?_ NB156_166.out _; (with_reducible repeat (first | refine blk_drewN ?_ _ | refine blk_drew ?_ | refine blk_alloc ?_ _)); refine blk_far ?_ NB156_166.out _; (with_reducible repeat (first | refine blk_drewN ?_ _ | refine blk_drew ?_ | refine blk_alloc ?_ _)); exact BK156.out⟩
               have n1_ : Aside0 ((((((((((w68.setCell ⟨gb166, 0, none⟩ (.int .i64 ((rd_T55 l0 x62_3).f0.f0))).setCell ⟨gb166, 1, none⟩ (.int .i64 ((rd_T55 l0 x62_3).f0.f1))).setCell ⟨gb166, 2, none⟩ (.int .i64 ((rd_T55 l0 x62_3).f0.f2))).setCell ⟨gb166, 3, none⟩ (.int .i64 ((rd_T55 l0 x62_3).f1.f0))).setCell ⟨gb166, 4, none⟩ (.int .i64 ((rd_T55 l0 x62_3).f1.f1))).setCell ⟨gb166, 5, none⟩ (.int .i64 ((rd_T55 l0 x62_3).f1.f2))).setCell ⟨gb166, 6, none⟩ (.int .i64 ((rd_T55 l0 x62_3).f2))).setCell ⟨gb166, 7, none⟩ (.int .i64 ((rd_T55 l0 x62_3).f3))).setCell ⟨gb166, 8, none⟩ (.int .i64 ((rd_T55 l0 x62_3).f4))).heap[gb166]? = some (.cells #[.int .i64 ((rd_T55 l0 x62_3).f0.f0), .int .i64 ((rd_T55 l0 x62_3).f0.f1), .int .i64 ((rd_T55 l0 x62_3).f0.f2), .int .i64 ((rd_T55 l0 x62_3).f1.f0), .int .i64 ((rd_T55 l0 x62_3).f1.f1), .int .i64 ((rd_T55 l0 x62_3).f1.f2), .int .i64 ((rd_T55 l0 x62_3).f2), .int .i64 ((rd_T55 l0 x62_3).f3), .int .i64 ((rd_T55 l0 x62_3).f4)] 55 (0, 0))) := ⟨by (with_reducible repeat (first | refine blk_drewN ?_ _ | refine blk_drew ?_ | refine blk_alloc ?_ _)); refine blk_put (cs := #[.int .i64 ((rd_T55 l0 x62_3).f0.f0), .int .i64 ((rd_T55 l0 x62_3).f0.f1), .int .i64 ((rd_T55 l0 x62_3).f0.f2), .int .i64 ((rd_T55 l0 x62_3).f1.f0), .int .i64 ((rd_T55 l0 x62_3).f1.f1), .int .i64 ((rd_T55 l0 x62_3).f1.f2), .int .i64 ((rd_T55 l0 x62_3).f2), .int .i64 ((rd_T55 l0 x62_3).f3), .int .i64 0]) ?_ 8 _ rfl; (with_reducible repeat (first | refine blk_drewN ?_ _ | refine blk_drew ?_ | refine blk_alloc ?_ _)); refine blk_put (cs := #[.int .i64 ((rd_T55 l0 x62_3).f0.f0), .int .i64 ((rd_T55 l0 x62_3).f0.f1), .int .i64 ((rd_T55 l0 x62_3).f0.f2), .int .i64 ((rd_T55 l0 x62_3).f1.f0), .int .i64 ((rd_T55 l0 x62_3).f1.f1), .int .i64 ((rd_T55 l0 x62_3).f1.f2), .int .i64 ((rd_T55 l0 x62_3).f2), .int .i64 0, .int .i64 0]) ?_ 7 _ rfl; (with_reducible repeat (first | refine blk_drewN ?_ _ | refine blk_drew ?_ | refine blk_alloc ?_ _)); refine blk_put (cs := #[.int .i64 ((rd_T55 l0 x62_3).f0.f0), .int .i64 ((rd_T55 l0 x62_3).f0.f1), .int .i64 ((rd_T55 l0 x62_3).f0.f2), .int .i64 ((rd_T55 l0 x62_3).f1.f0), .int .i64 ((rd_T55 l0 x62_3).f1.f1), .int .i64 ((rd_T55 l0 x62_3).f1.f2), .int .i64 0, .int .i64 0, .int .i64 0]) ?_ 6 _ rfl; (with_reducible repeat (first | refine blk_drewN ?_ _ | refine blk_drew ?_ | refine blk_alloc ?_ _)); refine blk_put (cs := #[.int .i64 ((rd_T55 l0 x62_3).f0.f0), .int .i64 ((rd_T55 l0 x62_3).f0.f1), .int .i64 ((rd_T55 l0 x62_3).f0.f2), .int .i64 ((rd_T55 l0 x62_3).f1.f0), .int .i64 ((rd_T55 l0 x62_3).f1.f1), .int .i64 0, .int .i64 0, .int .i64 0, .int .i64 0]) ?_ 5 _ rfl; (with_reducible repeat (first | refine blk_drewN ?_ _ | refine blk_drew ?_ | refine blk_alloc ?_ _)); refine blk_put (cs := #[.int .i64 ((rd_T55 l0 x62_3).f0.f0), .int .i64 ((rd_T55 l0 x62_3).f0.f1), .int .i64 ((rd_T55 l0 x62_3).f0.f2), .int .i64 ((rd_T55 l0 x62_3).f1.f0), .int .i64 0, .int .i64 0, .int .i64 0, .int .i64 0, .int .i64 0]) ?_ 4 _ rfl; (with_reducible repeat (first | refine blk_drewN ?_ _ | refine blk_drew ?_ | refine blk_alloc ?_ _)); refine blk_put (cs := #[.int .i64 ((rd_T55 l0 x62_3).f0.f0), .int .i64 ((rd_T55 l0 x62_3).f0.f1), .int .i64 ((rd_T55 l0 x62_3).f0.f2), .int .i64 0, .int .i64 0, .int .i64 0, .int .i64 0, .int .i64 0, .int .i64 0]) ?_ 3 _ rfl; (with_reducible repeat (first | refine blk_drewN ?_ _ | refine blk_drew ?_ | refine blk_alloc ?_ _)); refine blk_put (cs := #[.int .i64 ((rd_T55 l0 x62_3).f0.f0), .int .i64 ((rd_T55 l0 x62_3).f0.f1), .int .i64 0, .int .i64 0, .int .i64 0, .int .i64 0, .int .i64 0, .int .i64 0, .int .i64 0]) ?_ 2 _ rfl; (with_reducible repeat (first | refine blk_drewN ?_ _ | refine blk_drew ?_ | refine blk_alloc ?_ _)); refine blk_put (cs := #[.int .i64 ((rd_T55 l0 x62_3).f0.f0), .int .i64 0, .int .i64 0, .int .i64 0, .int .i64 0, .int .i64 0, .int .i64 0, .int .i64 0, .int .i64 0]) ?_ 1 _ rfl; (with_reducible repeat (first | refine blk_drewN ?_ _ | refine blk_drew ?_ | refine blk_alloc ?_ _)); refine blk_put (cs := #[.int .i64 0, .int .i64 0, .int .i64 0, .int .i64 0, .int .i64 0, .int .i64 0, .int .i64 0, .int .i64 0, .int .i64 0]) ?_ 0 _ rfl; (with_reducible repeat (first | refine blk_drewN ?_ _ | refine blk_drew ?_ | refine blk_alloc ?_ _)); exact BK166.out⟩
               have n2_ : Aside0 (Below w.heap.size w (((((((((w68.setCell ⟨gb166, 0, none⟩ (.int .i64 ((rd_T55 l0 x62_3).f0.f0))).setCell ⟨gb166, 1, none⟩ (.int .i64 ((rd_T55 l0 x62_3).f0.f1))).setCell ⟨gb166, 2, none⟩ (.int .i64 ((rd_T55 l0 x62_3).f0.f2))).setCell ⟨gb166, 3, none⟩ (.int .i64 ((rd_T55 l0 x62_3).f1.f0))).setCell ⟨gb166, 4, none⟩ (.int .i64 ((rd_T55 l0 x62_3).f1.f1))).setCell ⟨gb166, 5, none⟩ (.int .i64 ((rd_T55 l0 x62_3).f1.f2))).setCell ⟨gb166, 6, none⟩ (.int .i64 ((rd_T55 l0 x62_3).f2))).setCell ⟨gb166, 7, none⟩ (.int .i64 ((rd_T55 l0 x62_3).f3))).setCell ⟨gb166, 8, none⟩ (.int .i64 ((rd_T55 l0 x62_3).f4)))) := ⟨by repeat (first | (with_reducible first | exact HB.out | apply below_alloc | apply pw_below_drewN | apply below_drew1 | refine below_set ?_ GE156.out | refine below_set ?_ GE166.out) | exact HB.out)⟩
               (try clear BK156)
               (try clear BK166)
               (try clear HB)
               generalize (((((((((w68.setCell ⟨gb166, 0, none⟩ (.int .i64 ((rd_T55 l0 x62_3).f0.f0))).setCell ⟨gb166, 1, none⟩ (.int .i64 ((rd_T55 l0 x62_3).f0.f1))).setCell ⟨gb166, 2, none⟩ (.int .i64 ((rd_T55 l0 x62_3).f0.f2))).setCell ⟨gb166, 3, none⟩ (.int .i64 ((rd_T55 l0 x62_3).f1.f0))).setCell ⟨gb166, 4, none⟩ (.int .i64 ((rd_T55 l0 x62_3).f1.f1))).setCell ⟨gb166, 5, none⟩ (.int .i64 ((rd_T55 l0 x62_3).f1.f2))).setCell ⟨gb166, 6, none⟩ (.int .i64 ((rd_T55 l0 x62_3).f2))).setCell ⟨gb166, 7, none⟩ (.int .i64 ((rd_T55 l0 x62_3).f3))).setCell ⟨gb166, 8, none⟩ (.int .i64 ((rd_T55 l0 x62_3).f4))) = w71 at n0_ n1_ n2_ ⊢
               have BK156 := n0_
               have BK166 := n1_
               have HB := n2_
               clear n0_ n1_ n2_
               have n0_ := Aside0.mk (blk_drew BK156.out)
               have n1_ := Aside0.mk (blk_drew BK166.out)
               have n2_ := Aside0.mk (below_drew1 HB.out)
               clear BK156
               clear BK166
               clear HB
               have BK156 := n0_
               have BK166 := n1_
               have HB := n2_
               clear n0_ n1_ n2_
               refine start_ (n := 11) (S := fun w' => w'.cell? ⟨gb166, 0, none⟩ = some (.int .i64 ((rd_T55 l0 x62_3).f0.f0)) ∧ w'.cell? ⟨gb166, 1, none⟩ = some (.int .i64 ((rd_T55 l0 x62_3).f0.f1)) ∧ w'.cell? ⟨gb166, 2, none⟩ = some (.int .i64 ((rd_T55 l0 x62_3).f0.f2)) ∧ w'.cell? ⟨gb166, 3, none⟩ = some (.int .i64 ((rd_T55 l0 x62_3).f1.f0)) ∧ w'.cell? ⟨gb166, 4, none⟩ = some (.int .i64 ((rd_T55 l0 x62_3).f1.f1)) ∧ w'.cell? ⟨gb166, 5, none⟩ = some (.int .i64 ((rd_T55 l0 x62_3).f1.f2)) ∧ w'.cell? ⟨gb166, 6, none⟩ = some (.int .i64 ((rd_T55 l0 x62_3).f2)) ∧ w'.cell? ⟨gb166, 7, none⟩ = some (.int .i64 ((rd_T55 l0 x62_3).f3)) ∧ w'.cell? ⟨gb166, 8, none⟩ = some (.int .i64 ((rd_T55 l0 x62_3).f4)) ∧ w'.cell? ⟨gb156, 0, none⟩ = some (.int .i64 a1_0) ∧ w'.cell? ⟨gb156, 1, none⟩ = some (.int .i64 a1_1) ∧ w'.cell? ⟨gb156, 2, none⟩ = some (.int .i64 a1_2)) (ds := []) #[false, false, false, false, false, false, false, false, false, false, false] (by kernel_rfl) rfl rfl ⟨(blk_cell BK166.out 0).trans rfl, (blk_cell BK166.out 1).trans rfl, (blk_cell BK166.out 2).trans rfl, (blk_cell BK166.out 3).trans rfl, (blk_cell BK166.out 4).trans rfl, (blk_cell BK166.out 5).trans rfl, (blk_cell BK166.out 6).trans rfl, (blk_cell BK166.out 7).trans rfl, (blk_cell BK166.out 8).trans rfl, (blk_cell BK156.out 0).trans rfl, (blk_cell BK156.out 1).trans rfl, (blk_cell BK156.out 2).trans rfl⟩ (fun hHeld => ?_); refine with_tabW controller_check.tab20 controller_check.bits20 (fun HT_ HW_ => ?_)
               generalize w71.drew = w72 at BK156 BK166 HB hHeld ⊢
               refine ta 0 67 (bzz 11 1) (take_ofW HT_.out HW_.out (by kernel_rfl)) hHeld ?_
               refine ta 2 69 (bzz 11 5) (take_ofW HT_.out HW_.out (by kernel_rfl)) hHeld ?_
               refine ta 3 70 (bzz 11 13) (take_ofW HT_.out HW_.out (by kernel_rfl)) hHeld ?_
               refine one_ (i := 1) (N := some 68) (bzz 11 15) rfl rfl (one_of HT_.out (by kernel_rfl)) (by decide) (fun K hK => ?_)
               refine goes_ Try.func32 (by kernel_rfl) rfl #[.agg #[.int .i64 ((rd_T55 l0 x62_3).f0.f0), .int .i64 ((rd_T55 l0 x62_3).f0.f1), .int .i64 ((rd_T55 l0 x62_3).f0.f2), .int .i64 ((rd_T55 l0 x62_3).f1.f0), .int .i64 ((rd_T55 l0 x62_3).f1.f1), .int .i64 ((rd_T55 l0 x62_3).f1.f2), .int .i64 ((rd_T55 l0 x62_3).f2), .int .i64 ((rd_T55 l0 x62_3).f3), .int .i64 ((rd_T55 l0 x62_3).f4)]] (by rfl) rfl rfl (by (try simp only [List.map_toArray, List.map_cons, List.map_nil]); first | done | rfl | (simp only [List.length_drop, List.length_take]; rfl)) ?_
               with_reducible refine (controller_length.calls k3 ((rd_T55 l0 x62_3).f0.f0) ((rd_T55 l0 x62_3).f0.f1) ((rd_T55 l0 x62_3).f0.f2) ((rd_T55 l0 x62_3).f1.f0) ((rd_T55 l0 x62_3).f1.f1) ((rd_T55 l0 x62_3).f1.f2) ((rd_T55 l0 x62_3).f2) ((rd_T55 l0 x62_3).f3) ((rd_T55 l0 x62_3).f4) t167 _ A64.out).mono ?_
               rintro e w73 ⟨rfl, hb⟩
               refine ⟨_, rfl, ?_⟩
               have n0_ := Aside0.mk (blk_below (g := gb156) (o := .cells #[.int .i64 a1_0, .int .i64 a1_1, .int .i64 a1_2] 31 (0, 0)) (by (with_reducible repeat (first | refine blk_drewN ?_ _ | refine blk_drew ?_ | refine blk_alloc ?_ _)); exact BK156.out) hb)
               have n1_ := Aside0.mk (blk_below (g := gb166) (o := .cells #[.int .i64 ((rd_T55 l0 x62_3).f0.f0), .int .i64 ((rd_T55 l0 x62_3).f0.f1), .int .i64 ((rd_T55 l0 x62_3).f0.f2), .int .i64 ((rd_T55 l0 x62_3).f1.f0), .int .i64 ((rd_T55 l0 x62_3).f1.f1), .int .i64 ((rd_T55 l0 x62_3).f1.f2), .int .i64 ((rd_T55 l0 x62_3).f2), .int .i64 ((rd_T55 l0 x62_3).f3), .int .i64 ((rd_T55 l0 x62_3).f4)] 55 (0, 0)) (by (with_reducible repeat (first | refine blk_drewN ?_ _ | refine blk_drew ?_ | refine blk_alloc ?_ _)); exact BK166.out) hb)
               have n2_ := Aside0.mk (below_step (by repeat (first | (with_reducible first | exact HB.out | apply below_alloc | apply pw_below_drewN | apply below_drew1 | refine below_set ?_ GE156.out | refine below_set ?_ GE166.out) | exact HB.out)) hb)
               clear BK156
               clear BK166
               clear HB
               have BK156 := n0_
               have BK166 := n1_
               have HB := n2_
               clear n0_ n1_ n2_
               (try clear hb)
               (try clear hb2)
               (try clear hk)
               (try clear hi)
               refine hK.out _ _ ⟨(blk_cell BK166.out 0).trans rfl, (blk_cell BK166.out 1).trans rfl, (blk_cell BK166.out 2).trans rfl, (blk_cell BK166.out 3).trans rfl, (blk_cell BK166.out 4).trans rfl, (blk_cell BK166.out 5).trans rfl, (blk_cell BK166.out 6).trans rfl, (blk_cell BK166.out 7).trans rfl, (blk_cell BK166.out 8).trans rfl, (blk_cell BK156.out 0).trans rfl, (blk_cell BK156.out 1).trans rfl, (blk_cell BK156.out 2).trans rfl⟩ (fun hHeld => ?_)
               clear hK K
               refine norm_ (a' := ?_) ?_ ?_
               rotate_left
               ·show Act.put _ (some 68) _ = _
                simp only [Act.put, List.setIfInBounds_toArray, List.set_cons_zero, List.set_cons_succ, i64_w, i32_w]
                rfl
               refine one_ (i := 4) (N := some 71) (bzz 11 31) rfl rfl (one_of HT_.out (by kernel_rfl)) (by decide) (fun K hK => ?_)
               refine goes_ Try.func27 (by kernel_rfl) rfl #[.agg #[.int .i64 ((rd_T55 l0 x62_3).f0.f0), .int .i64 ((rd_T55 l0 x62_3).f0.f1), .int .i64 ((rd_T55 l0 x62_3).f0.f2), .int .i64 ((rd_T55 l0 x62_3).f1.f0), .int .i64 ((rd_T55 l0 x62_3).f1.f1), .int .i64 ((rd_T55 l0 x62_3).f1.f2), .int .i64 ((rd_T55 l0 x62_3).f2), .int .i64 ((rd_T55 l0 x62_3).f3), .int .i64 ((rd_T55 l0 x62_3).f4)], .agg #[.int .i64 a1_0, .int .i64 a1_1, .int .i64 a1_2]] (by rfl) rfl rfl (by (try simp only [List.map_toArray, List.map_cons, List.map_nil]); first | done | rfl | (simp only [List.length_drop, List.length_take]; rfl)) ?_
               with_reducible refine (controller_limit.calls ((rd_T55 l0 x62_3).f0.f0) ((rd_T55 l0 x62_3).f0.f1) ((rd_T55 l0 x62_3).f0.f2) ((rd_T55 l0 x62_3).f1.f0) ((rd_T55 l0 x62_3).f1.f1) ((rd_T55 l0 x62_3).f1.f2) ((rd_T55 l0 x62_3).f2) ((rd_T55 l0 x62_3).f3) ((rd_T55 l0 x62_3).f4) a1_0 a1_1 a1_2 t168 t169 t170 _ A65.out).mono ?_
               rintro e w74 ⟨rfl, hb⟩
               refine ⟨_, rfl, ?_⟩
               have n0_ := Aside0.mk (blk_below (g := gb156) (o := .cells #[.int .i64 a1_0, .int .i64 a1_1, .int .i64 a1_2] 31 (0, 0)) (by (with_reducible repeat (first | refine blk_drewN ?_ _ | refine blk_drew ?_ | refine blk_alloc ?_ _)); exact BK156.out) hb)
               have n1_ := Aside0.mk (blk_below (g := gb166) (o := .cells #[.int .i64 ((rd_T55 l0 x62_3).f0.f0), .int .i64 ((rd_T55 l0 x62_3).f0.f1), .int .i64 ((rd_T55 l0 x62_3).f0.f2), .int .i64 ((rd_T55 l0 x62_3).f1.f0), .int .i64 ((rd_T55 l0 x62_3).f1.f1), .int .i64 ((rd_T55 l0 x62_3).f1.f2), .int .i64 ((rd_T55 l0 x62_3).f2), .int .i64 ((rd_T55 l0 x62_3).f3), .int .i64 ((rd_T55 l0 x62_3).f4)] 55 (0, 0)) (by (with_reducible repeat (first | refine blk_drewN ?_ _ | refine blk_drew ?_ | refine blk_alloc ?_ _)); exact BK166.out) hb)
               have n2_ := Aside0.mk (below_step (by repeat (first | (with_reducible first | exact HB.out | apply below_alloc | apply pw_below_drewN | apply below_drew1 | refine below_set ?_ GE156.out | refine below_set ?_ GE166.out) | exact HB.out)) hb)
               clear BK156
               clear BK166
               clear HB
               have BK156 := n0_
               have BK166 := n1_
               have HB := n2_
               clear n0_ n1_ n2_
               (try clear hb)
               (try clear hb2)
               (try clear hk)
               (try clear hi)
               refine hK.out _ _ ⟨(blk_cell BK166.out 0).trans rfl, (blk_cell BK166.out 1).trans rfl, (blk_cell BK166.out 2).trans rfl, (blk_cell BK166.out 3).trans rfl, (blk_cell BK166.out 4).trans rfl, (blk_cell BK166.out 5).trans rfl, (blk_cell BK166.out 6).trans rfl, (blk_cell BK166.out 7).trans rfl, (blk_cell BK166.out 8).trans rfl, (blk_cell BK156.out 0).trans rfl, (blk_cell BK156.out 1).trans rfl, (blk_cell BK156.out 2).trans rfl⟩ (fun hHeld => ?_)
               clear hK K
               refine norm_ (a' := ?_) ?_ ?_
               rotate_left
               ·show Act.put _ (some 71) _ = _
                simp only [Act.put, List.setIfInBounds_toArray, List.set_cons_zero, List.set_cons_succ, i64_w, i32_w]
                rfl
               refine one_ (i := 5) (N := some 72) (bzz 11 63) rfl rfl (one_of HT_.out (by kernel_rfl)) (by decide) (fun K hK => ?_)
               refine goes_ Try.func25 (by kernel_rfl) rfl #[.int .i64 t167, .agg #[.int .i64 t168, .int .i64 t169, .int .i64 t170]] (by rfl) rfl rfl (by (try simp only [List.map_toArray, List.map_cons, List.map_nil]); first | done | rfl | (simp only [List.length_drop, List.length_take]; rfl)) ?_
               with_reducible refine (profile_Steps.calls k3 t167 t168 t169 t170 t171 t174 _ A66.out).mono ?_
               rintro e w75 ⟨v172, rfl, ho0, hb⟩
               refine ⟨_, rfl, ?_⟩
               have n0_ := Aside0.mk (Kd.R_lower ho0 (below_size (by repeat (first | (with_reducible first | exact HB.out | apply below_alloc | apply pw_below_drewN | apply below_drew1 | refine below_set ?_ GE156.out | refine below_set ?_ GE166.out) | exact HB.out))))
               have n1_ := Aside0.mk (blk_below (g := gb156) (o := .cells #[.int .i64 a1_0, .int .i64 a1_1, .int .i64 a1_2] 31 (0, 0)) (by (with_reducible repeat (first | refine blk_drewN ?_ _ | refine blk_drew ?_ | refine blk_alloc ?_ _)); exact BK156.out) hb)
               have n2_ := Aside0.mk (blk_below (g := gb166) (o := .cells #[.int .i64 ((rd_T55 l0 x62_3).f0.f0), .int .i64 ((rd_T55 l0 x62_3).f0.f1), .int .i64 ((rd_T55 l0 x62_3).f0.f2), .int .i64 ((rd_T55 l0 x62_3).f1.f0), .int .i64 ((rd_T55 l0 x62_3).f1.f1), .int .i64 ((rd_T55 l0 x62_3).f1.f2), .int .i64 ((rd_T55 l0 x62_3).f2), .int .i64 ((rd_T55 l0 x62_3).f3), .int .i64 ((rd_T55 l0 x62_3).f4)] 55 (0, 0)) (by (with_reducible repeat (first | refine blk_drewN ?_ _ | refine blk_drew ?_ | refine blk_alloc ?_ _)); exact BK166.out) hb)
               have n3_ := Aside0.mk (below_step (by repeat (first | (with_reducible first | exact HB.out | apply below_alloc | apply pw_below_drewN | apply below_drew1 | refine below_set ?_ GE156.out | refine below_set ?_ GE166.out) | exact HB.out)) hb)
               clear BK156
               clear BK166
               clear HB
               have HO173 := n0_
               have BK156 := n1_
               have BK166 := n2_
               have HB := n3_
               clear n0_ n1_ n2_ n3_
               (try clear hb)
               (try clear hb2)
               (try clear hk)
               (try clear hi)
               (try clear ho0)
               refine hK.out _ _ ⟨(blk_cell BK166.out 0).trans rfl, (blk_cell BK166.out 1).trans rfl, (blk_cell BK166.out 2).trans rfl, (blk_cell BK166.out 3).trans rfl, (blk_cell BK166.out 4).trans rfl, (blk_cell BK166.out 5).trans rfl, (blk_cell BK166.out 6).trans rfl, (blk_cell BK166.out 7).trans rfl, (blk_cell BK166.out 8).trans rfl, (blk_cell BK156.out 0).trans rfl, (blk_cell BK156.out 1).trans rfl, (blk_cell BK156.out 2).trans rfl⟩ (fun hHeld => ?_)
               clear hK K
               refine norm_ (a' := ?_) ?_ ?_
               rotate_left
               ·show Act.put _ (some 72) _ = _
                simp only [Act.put, List.setIfInBounds_toArray, List.set_cons_zero, List.set_cons_succ, i64_w, i32_w]
                rfl
               refine pu 6 66 (bzz 11 127) (any_of HT_.out (by kernel_rfl)) ?_
               refine pu 7 73 (bzz 11 255) (any_of HT_.out (by kernel_rfl)) ?_
               refine pu 8 74 (bzz 11 511) (any_of HT_.out (by kernel_rfl)) ?_
               refine pu 9 11 (bzz 11 1023) (any_of HT_.out (by kernel_rfl)) ?_
               refine pu 10 12 (bzz 11 2047) (any_of HT_.out (by kernel_rfl)) ?_
               refine done_ (done_of HT_.out (by kernel_rfl)) ?_
               try go_wp2
               go_roundg k3
               case measure => have := HK1.out; have := HK2.out; have := HK3.out; omega
               case rel => exact ⟨(wrap64 (x62_3 + 1)), (by first | rfl | (simp; done) | (simp [*]; done)), H', ⟨by have := HK1.out; have := HK2.out; have := HK3.out; omega⟩, ⟨by (with_reducible repeat (first | refine blk_drewN ?_ _ | refine blk_drew ?_ | refine blk_alloc ?_ _)); exact BK156.out⟩, ⟨by repeat (first | (with_reducible first | exact HB.out | apply below_alloc | apply pw_below_drewN | apply below_drew1 | refine below_set ?_ GE156.out | refine below_set ?_ GE166.out) | exact HB.out)⟩⟩
              ·rw [if_neg c67] at H
               have c67b0 : (t174 == 0) = false := beq_eq_false_iff_ne.mpr c67
               have c67b1 : (t174 != 0) = true := bne_iff_ne.mpr c67
               obtain rfl := Option.some.inj H
               have p165 : 0 ≤ (x62_3 : Int) := of_decide_eq_true (by first | (with_reducible assumption) | assumption)
               have q165 : x62_3 < (l0.length : Int) := of_decide_eq_true (by first | (with_reducible assumption) | assumption)
               obtain ⟨ad165, e165, hx165_0, hx165_1, hx165_2, hx165_3, hx165_4, hx165_5, hx165_6, hx165_7, hx165_8⟩ := at_T55 HR0.out x62_3 p165 q165
               cases e165
               replace hx165_0 := (HB.out.cell (World.block_lt_of_cell? w _ hx165_0)).trans hx165_0
               replace hx165_1 := (HB.out.cell (World.block_lt_of_cell? w _ hx165_1)).trans hx165_1
               replace hx165_2 := (HB.out.cell (World.block_lt_of_cell? w _ hx165_2)).trans hx165_2
               replace hx165_3 := (HB.out.cell (World.block_lt_of_cell? w _ hx165_3)).trans hx165_3
               replace hx165_4 := (HB.out.cell (World.block_lt_of_cell? w _ hx165_4)).trans hx165_4
               replace hx165_5 := (HB.out.cell (World.block_lt_of_cell? w _ hx165_5)).trans hx165_5
               replace hx165_6 := (HB.out.cell (World.block_lt_of_cell? w _ hx165_6)).trans hx165_6
               replace hx165_7 := (HB.out.cell (World.block_lt_of_cell? w _ hx165_7)).trans hx165_7
               replace hx165_8 := (HB.out.cell (World.block_lt_of_cell? w _ hx165_8)).trans hx165_8
               replace p165 := eq_true p165
               replace q165 := eq_true q165
               try go_wp2_with (first | ((with_reducible refine gate_dst (N := 10) rfl ?_); refine box_event ?hg (N := 10) ?hd (cs := #[.int .i64 0, .int .i64 0, .int .i64 0, .int .i64 0, .int .i64 0, .int .i64 0, .int .i64 0, .int .i64 0, .int .i64 0]) (t := 55) ?hr ?_; (case hd => rfl); (case hg => rfl); (case hr => first | (go_simp; done) | (go_simp; rfl)); intro gb166 hg w76 hbox hb; have n0_ := Aside0.mk (blk_below (g := gb156) (o := .cells #[.int .i64 a1_0, .int .i64 a1_1, .int .i64 a1_2] 31 (0, 0)) (by (with_reducible repeat (first | refine blk_drewN ?_ _ | refine blk_drew ?_ | refine blk_alloc ?_ _)); exact BK156.out) hb); have n1_ := Aside0.mk (below_step (by repeat (first | (with_reducible first | exact HB.out | apply below_alloc | apply pw_below_drewN | apply below_drew1 | refine below_set ?_ GE156.out) | exact HB.out)) hb); have n2_ := Aside0.mk (hbox); have n3_ := Aside0.mk ((by rw [hg]; exact (below_size (by repeat (first | (with_reducible first | exact HB.out | apply below_alloc | apply pw_below_drewN | apply below_drew1 | refine below_set ?_ GE156.out) | exact HB.out))) : w.heap.size ≤ gb166)); have n4_ := Aside0.mk ((by rw [hg]; exact (below_size (by repeat (first | (with_reducible first | exact HB.out | apply below_alloc | apply pw_below_drewN | apply below_drew1 | refine below_set ?_ GE156.out) | exact HB.out))) : w.heap.size ≤ gb166)); have n5_ := Aside0.mk ((by rw [hg]; exact Nat.ne_of_lt (blk_lt (g := gb156) (o := .cells #[.int .i64 a1_0, .int .i64 a1_1, .int .i64 a1_2] 31 (0, 0)) (by (with_reducible repeat (first | refine blk_drewN ?_ _ | refine blk_drew ?_ | refine blk_alloc ?_ _)); exact BK156.out)) : gb156 ≠ gb166)); have n6_ := Aside0.mk ((by rw [hg]; exact Nat.ne_of_gt (blk_lt (g := gb156) (o := .cells #[.int .i64 a1_0, .int .i64 a1_1, .int .i64 a1_2] 31 (0, 0)) (by (with_reducible repeat (first | refine blk_drewN ?_ _ | refine blk_drew ?_ | refine blk_alloc ?_ _)); exact BK156.out)) : gb166 ≠ gb156)); clear BK156; clear HB; have BK156 := n0_; have HB := n1_; have BK166 := n2_; have GW166 := n3_; have GE166 := n4_; have NB156_166 := n5_; have NB166_156 := n6_; clear n0_ n1_ n2_ n3_ n4_ n5_ n6_; clear hb hbox hg; have hnb77 := NB166_156.out; have hnc77 := NB156_166.out; have hcz78_0 : w76.cell? ⟨gb166, 0, none⟩ = some (.int .i64 0) := (blk_cell BK166.out 0).trans rfl; have hcz78_1 : w76.cell? ⟨gb166, 1, none⟩ = some (.int .i64 0) := (blk_cell BK166.out 1).trans rfl; have hcz78_2 : w76.cell? ⟨gb166, 2, none⟩ = some (.int .i64 0) := (blk_cell BK166.out 2).trans rfl; have hcz78_3 : w76.cell? ⟨gb166, 3, none⟩ = some (.int .i64 0) := (blk_cell BK166.out 3).trans rfl; have hcz78_4 : w76.cell? ⟨gb166, 4, none⟩ = some (.int .i64 0) := (blk_cell BK166.out 4).trans rfl; have hcz78_5 : w76.cell? ⟨gb166, 5, none⟩ = some (.int .i64 0) := (blk_cell BK166.out 5).trans rfl; have hcz78_6 : w76.cell? ⟨gb166, 6, none⟩ = some (.int .i64 0) := (blk_cell BK166.out 6).trans rfl; have hcz78_7 : w76.cell? ⟨gb166, 7, none⟩ = some (.int .i64 0) := (blk_cell BK166.out 7).trans rfl; have hcz78_8 : w76.cell? ⟨gb166, 8, none⟩ = some (.int .i64 0) := (blk_cell BK166.out 8).trans rfl; have hfz78_0 := blk_frozen BK166.out 0; have hfz78_1 := blk_frozen BK166.out 1; have hfz78_2 := blk_frozen BK166.out 2; have hfz78_3 := blk_frozen BK166.out 3; have hfz78_4 := blk_frozen BK166.out 4; have hfz78_5 := blk_frozen BK166.out 5; have hfz78_6 := blk_frozen BK166.out 6; have hfz78_7 := blk_frozen BK166.out 7; have hfz78_8 := blk_frozen BK166.out 8))
               have n0_ : Aside0 ((((((((((w76.setCell ⟨gb166, 0, none⟩ (.int .i64 ((rd_T55 l0 x62_3).f0.f0))).setCell ⟨gb166, 1, none⟩ (.int .i64 ((rd_T55 l0 x62_3).f0.f1))).setCell ⟨gb166, 2, none⟩ (.int .i64 ((rd_T55 l0 x62_3).f0.f2))).setCell ⟨gb166, 3, none⟩ (.int .i64 ((rd_T55 l0 x62_3).f1.f0))).setCell ⟨gb166, 4, none⟩ (.int .i64 ((rd_T55 l0 x62_3).f1.f1))).setCell ⟨gb166, 5, none⟩ (.int .i64 ((rd_T55 l0 x62_3).f1.f2))).setCell ⟨gb166, 6, none⟩ (.int .i64 ((rd_T55 l0 x62_3).f2))).setCell ⟨gb166, 7, none⟩ (.int .i64 ((rd_T55 l0 x62_3).f3))).setCell ⟨gb166, 8, none⟩ (.int .i64 ((rd_T55 l0 x62_3).f4))).heap[gb156]? = some (.cells #[.int .i64 a1_0, .int .i64 a1_1, .int .i64 a1_2] 31 (0, 0))) := ⟨by (with_reducible repeat (first | refine blk_drewN ?_ _ | refine blk_drew ?_ | refine blk_alloc ?_ _)); refine blk_far ?_ NB156_166.out _; (with_reducible repeat (first | refine blk_drewN ?_ _ | refine blk_drew ?_ | refine blk_alloc ?_ _)); refine blk_far ?_ NB156_166.out _; (with_reducible repeat (first | refine blk_drewN ?_ _ | refine blk_drew ?_ | refine blk_alloc ?_ _)); refine blk_far ?_ NB156_166.out _; (with_reducible repeat (first | refine blk_drewN ?_ _ | refine blk_drew ?_ | refine blk_alloc ?_ _)); refine blk_far ?_ NB156_166.out _; (with_reducible repeat (first | refine blk_drewN ?_ _ | refine blk_drew ?_ | refine blk_alloc ?_ _)); refine blk_far ?_ NB156_166.out _; (with_reducible repeat (first | refine blk_drewN ?_ _ | refine blk_drew ?_ | refine blk_alloc ?_ _)); refine blk_far ?_ NB156_166.out _; (with_reducible repeat (first | refine blk_drewN ?_ _ | refine blk_drew ?_ | refine blk_alloc ?_ _)); refine blk_far ?_ NB156_166.out _; (with_reducible repeat (first | refine blk_drewN ?_ _ | refine blk_drew ?_ | refine blk_alloc ?_ _)); refine blk_far ?_ NB156_166.out _; (with_reducible repeat (first | refine blk_drewN ?_ _ | refine blk_drew ?_ | refine blk_alloc ?_ _)); refine blk_far ?_ NB156_166.out _; (with_reducible repeat (first | refine blk_drewN ?_ _ | refine blk_drew ?_ | refine blk_alloc ?_ _)); exact BK156.out⟩
               have n1_ : Aside0 ((((((((((w76.setCell ⟨gb166, 0, none⟩ (.int .i64 ((rd_T55 l0 x62_3).f0.f0))).setCell ⟨gb166, 1, none⟩ (.int .i64 ((rd_T55 l0 x62_3).f0.f1))).setCell ⟨gb166, 2, none⟩ (.int .i64 ((rd_T55 l0 x62_3).f0.f2))).setCell ⟨gb166, 3, none⟩ (.int .i64 ((rd_T55 l0 x62_3).f1.f0))).setCell ⟨gb166, 4, none⟩ (.int .i64 ((rd_T55 l0 x62_3).f1.f1))).setCell ⟨gb166, 5, none⟩ (.int .i64 ((rd_T55 l0 x62_3).f1.f2))).setCell ⟨gb166, 6, none⟩ (.int .i64 ((rd_T55 l0 x62_3).f2))).setCell ⟨gb166, 7, none⟩ (.int .i64 ((rd_T55 l0 x62_3).f3))).setCell ⟨gb166, 8, none⟩ (.int .i64 ((rd_T55 l0 x62_3).f4))).heap[gb166]? = some (.cells #[.int .i64 ((rd_T55 l0 x62_3).f0.f0), .int .i64 ((rd_T55 l0 x62_3).f0.f1), .int .i64 ((rd_T55 l0 x62_3).f0.f2), .int .i64 ((rd_T55 l0 x62_3).f1.f0), .int .i64 ((rd_T55 l0 x62_3).f1.f1), .int .i64 ((rd_T55 l0 x62_3).f1.f2), .int .i64 ((rd_T55 l0 x62_3).f2), .int .i64 ((rd_T55 l0 x62_3).f3), .int .i64 ((rd_T55 l0 x62_3).f4)] 55 (0, 0))) := ⟨by (with_reducible repeat (first | refine blk_drewN ?_ _ | refine blk_drew ?_ | refine blk_alloc ?_ _)); refine blk_put (cs := #[.int .i64 ((rd_T55 l0 x62_3).f0.f0), .int .i64 ((rd_T55 l0 x62_3).f0.f1), .int .i64 ((rd_T55 l0 x62_3).f0.f2), .int .i64 ((rd_T55 l0 x62_3).f1.f0), .int .i64 ((rd_T55 l0 x62_3).f1.f1), .int .i64 ((rd_T55 l0 x62_3).f1.f2), .int .i64 ((rd_T55 l0 x62_3).f2), .int .i64 ((rd_T55 l0 x62_3).f3), .int .i64 0]) ?_ 8 _ rfl; (with_reducible repeat (first | refine blk_drewN ?_ _ | refine blk_drew ?_ | refine blk_alloc ?_ _)); refine blk_put (cs := #[.int .i64 ((rd_T55 l0 x62_3).f0.f0), .int .i64 ((rd_T55 l0 x62_3).f0.f1), .int .i64 ((rd_T55 l0 x62_3).f0.f2), .int .i64 ((rd_T55 l0 x62_3).f1.f0), .int .i64 ((rd_T55 l0 x62_3).f1.f1), .int .i64 ((rd_T55 l0 x62_3).f1.f2), .int .i64 ((rd_T55 l0 x62_3).f2), .int .i64 0, .int .i64 0]) ?_ 7 _ rfl; (with_reducible repeat (first | refine blk_drewN ?_ _ | refine blk_drew ?_ | refine blk_alloc ?_ _)); refine blk_put (cs := #[.int .i64 ((rd_T55 l0 x62_3).f0.f0), .int .i64 ((rd_T55 l0 x62_3).f0.f1), .int .i64 ((rd_T55 l0 x62_3).f0.f2), .int .i64 ((rd_T55 l0 x62_3).f1.f0), .int .i64 ((rd_T55 l0 x62_3).f1.f1), .int .i64 ((rd_T55 l0 x62_3).f1.f2), .int .i64 0, .int .i64 0, .int .i64 0]) ?_ 6 _ rfl; (with_reducible repeat (first | refine blk_drewN ?_ _ | refine blk_drew ?_ | refine blk_alloc ?_ _)); refine blk_put (cs := #[.int .i64 ((rd_T55 l0 x62_3).f0.f0), .int .i64 ((rd_T55 l0 x62_3).f0.f1), .int .i64 ((rd_T55 l0 x62_3).f0.f2), .int .i64 ((rd_T55 l0 x62_3).f1.f0), .int .i64 ((rd_T55 l0 x62_3).f1.f1), .int .i64 0, .int .i64 0, .int .i64 0, .int .i64 0]) ?_ 5 _ rfl; (with_reducible repeat (first | refine blk_drewN ?_ _ | refine blk_drew ?_ | refine blk_alloc ?_ _)); refine blk_put (cs := #[.int .i64 ((rd_T55 l0 x62_3).f0.f0), .int .i64 ((rd_T55 l0 x62_3).f0.f1), .int .i64 ((rd_T55 l0 x62_3).f0.f2), .int .i64 ((rd_T55 l0 x62_3).f1.f0), .int .i64 0, .int .i64 0, .int .i64 0, .int .i64 0, .int .i64 0]) ?_ 4 _ rfl; (with_reducible repeat (first | refine blk_drewN ?_ _ | refine blk_drew ?_ | refine blk_alloc ?_ _)); refine blk_put (cs := #[.int .i64 ((rd_T55 l0 x62_3).f0.f0), .int .i64 ((rd_T55 l0 x62_3).f0.f1), .int .i64 ((rd_T55 l0 x62_3).f0.f2), .int .i64 0, .int .i64 0, .int .i64 0, .int .i64 0, .int .i64 0, .int .i64 0]) ?_ 3 _ rfl; (with_reducible repeat (first | refine blk_drewN ?_ _ | refine blk_drew ?_ | refine blk_alloc ?_ _)); refine blk_put (cs := #[.int .i64 ((rd_T55 l0 x62_3).f0.f0), .int .i64 ((rd_T55 l0 x62_3).f0.f1), .int .i64 0, .int .i64 0, .int .i64 0, .int .i64 0, .int .i64 0, .int .i64 0, .int .i64 0]) ?_ 2 _ rfl; (with_reducible repeat (first | refine blk_drewN ?_ _ | refine blk_drew ?_ | refine blk_alloc ?_ _)); refine blk_put (cs := #[.int .i64 ((rd_T55 l0 x62_3).f0.f0), .int .i64 0, .int .i64 0, .int .i64 0, .int .i64 0, .int .i64 0, .int .i64 0, .int .i64 0, .int .i64 0]) ?_ 1 _ rfl; (with_reducible repeat (first | refine blk_drewN ?_ _ | refine blk_drew ?_ | refine blk_alloc ?_ _)); refine blk_put (cs := #[.int .i64 0, .int .i64 0, .int .i64 0, .int .i64 0, .int .i64 0, .int .i64 0, .int .i64 0, .int .i64 0, .int .i64 0]) ?_ 0 _ rfl; (with_reducible repeat (first | refine blk_drewN ?_ _ | refine blk_drew ?_ | refine blk_alloc ?_ _)); exact BK166.out⟩
               have n2_ : Aside0 (Below w.heap.size w (((((((((w76.setCell ⟨gb166, 0, none⟩ (.int .i64 ((rd_T55 l0 x62_3).f0.f0))).setCell ⟨gb166, 1, none⟩ (.int .i64 ((rd_T55 l0 x62_3).f0.f1))).setCell ⟨gb166, 2, none⟩ (.int .i64 ((rd_T55 l0 x62_3).f0.f2))).setCell ⟨gb166, 3, none⟩ (.int .i64 ((rd_T55 l0 x62_3).f1.f0))).setCell ⟨gb166, 4, none⟩ (.int .i64 ((rd_T55 l0 x62_3).f1.f1))).setCell ⟨gb166, 5, none⟩ (.int .i64 ((rd_T55 l0 x62_3).f1.f2))).setCell ⟨gb166, 6, none⟩ (.int .i64 ((rd_T55 l0 x62_3).f2))).setCell ⟨gb166, 7, none⟩ (.int .i64 ((rd_T55 l0 x62_3).f3))).setCell ⟨gb166, 8, none⟩ (.int .i64 ((rd_T55 l0 x62_3).f4)))) := ⟨by repeat (first | (with_reducible first | exact HB.out | apply below_alloc | apply pw_below_drewN | apply below_drew1 | refine below_set ?_ GE156.out | refine below_set ?_ GE166.out) | exact HB.out)⟩
               (try clear BK156)
               (try clear BK166)
               (try clear HB)
               generalize (((((((((w76.setCell ⟨gb166, 0, none⟩ (.int .i64 ((rd_T55 l0 x62_3).f0.f0))).setCell ⟨gb166, 1, none⟩ (.int .i64 ((rd_T55 l0 x62_3).f0.f1))).setCell ⟨gb166, 2, none⟩ (.int .i64 ((rd_T55 l0 x62_3).f0.f2))).setCell ⟨gb166, 3, none⟩ (.int .i64 ((rd_T55 l0 x62_3).f1.f0))).setCell ⟨gb166, 4, none⟩ (.int .i64 ((rd_T55 l0 x62_3).f1.f1))).setCell ⟨gb166, 5, none⟩ (.int .i64 ((rd_T55 l0 x62_3).f1.f2))).setCell ⟨gb166, 6, none⟩ (.int .i64 ((rd_T55 l0 x62_3).f2))).setCell ⟨gb166, 7, none⟩ (.int .i64 ((rd_T55 l0 x62_3).f3))).setCell ⟨gb166, 8, none⟩ (.int .i64 ((rd_T55 l0 x62_3).f4))) = w79 at n0_ n1_ n2_ ⊢
               have BK156 := n0_
               have BK166 := n1_
               have HB := n2_
               clear n0_ n1_ n2_
               have n0_ := Aside0.mk (blk_drew BK156.out)
               have n1_ := Aside0.mk (blk_drew BK166.out)
               have n2_ := Aside0.mk (below_drew1 HB.out)
               clear BK156
               clear BK166
               clear HB
               have BK156 := n0_
               have BK166 := n1_
               have HB := n2_
               clear n0_ n1_ n2_
               refine start_ (n := 11) (S := fun w' => w'.cell? ⟨gb166, 0, none⟩ = some (.int .i64 ((rd_T55 l0 x62_3).f0.f0)) ∧ w'.cell? ⟨gb166, 1, none⟩ = some (.int .i64 ((rd_T55 l0 x62_3).f0.f1)) ∧ w'.cell? ⟨gb166, 2, none⟩ = some (.int .i64 ((rd_T55 l0 x62_3).f0.f2)) ∧ w'.cell? ⟨gb166, 3, none⟩ = some (.int .i64 ((rd_T55 l0 x62_3).f1.f0)) ∧ w'.cell? ⟨gb166, 4, none⟩ = some (.int .i64 ((rd_T55 l0 x62_3).f1.f1)) ∧ w'.cell? ⟨gb166, 5, none⟩ = some (.int .i64 ((rd_T55 l0 x62_3).f1.f2)) ∧ w'.cell? ⟨gb166, 6, none⟩ = some (.int .i64 ((rd_T55 l0 x62_3).f2)) ∧ w'.cell? ⟨gb166, 7, none⟩ = some (.int .i64 ((rd_T55 l0 x62_3).f3)) ∧ w'.cell? ⟨gb166, 8, none⟩ = some (.int .i64 ((rd_T55 l0 x62_3).f4)) ∧ w'.cell? ⟨gb156, 0, none⟩ = some (.int .i64 a1_0) ∧ w'.cell? ⟨gb156, 1, none⟩ = some (.int .i64 a1_1) ∧ w'.cell? ⟨gb156, 2, none⟩ = some (.int .i64 a1_2)) (ds := []) #[false, false, false, false, false, false, false, false, false, false, false] (by kernel_rfl) rfl rfl ⟨(blk_cell BK166.out 0).trans rfl, (blk_cell BK166.out 1).trans rfl, (blk_cell BK166.out 2).trans rfl, (blk_cell BK166.out 3).trans rfl, (blk_cell BK166.out 4).trans rfl, (blk_cell BK166.out 5).trans rfl, (blk_cell BK166.out 6).trans rfl, (blk_cell BK166.out 7).trans rfl, (blk_cell BK166.out 8).trans rfl, (blk_cell BK156.out 0).trans rfl, (blk_cell BK156.out 1).trans rfl, (blk_cell BK156.out 2).trans rfl⟩ (fun hHeld => ?_); refine with_tabW controller_check.tab20 controller_check.bits20 (fun HT_ HW_ => ?_)
               generalize w79.drew = w80 at BK156 BK166 HB hHeld ⊢
               refine ta 0 67 (bzz 11 1) (take_ofW HT_.out HW_.out (by kernel_rfl)) hHeld ?_
               refine ta 2 69 (bzz 11 5) (take_ofW HT_.out HW_.out (by kernel_rfl)) hHeld ?_
               refine ta 3 70 (bzz 11 13) (take_ofW HT_.out HW_.out (by kernel_rfl)) hHeld ?_
               refine one_ (i := 1) (N := some 68) (bzz 11 15) rfl rfl (one_of HT_.out (by kernel_rfl)) (by decide) (fun K hK => ?_)
               refine goes_ Try.func32 (by kernel_rfl) rfl #[.agg #[.int .i64 ((rd_T55 l0 x62_3).f0.f0), .int .i64 ((rd_T55 l0 x62_3).f0.f1), .int .i64 ((rd_T55 l0 x62_3).f0.f2), .int .i64 ((rd_T55 l0 x62_3).f1.f0), .int .i64 ((rd_T55 l0 x62_3).f1.f1), .int .i64 ((rd_T55 l0 x62_3).f1.f2), .int .i64 ((rd_T55 l0 x62_3).f2), .int .i64 ((rd_T55 l0 x62_3).f3), .int .i64 ((rd_T55 l0 x62_3).f4)]] (by rfl) rfl rfl (by (try simp only [List.map_toArray, List.map_cons, List.map_nil]); first | done | rfl | (simp only [List.length_drop, List.length_take]; rfl)) ?_
               with_reducible refine (controller_length.calls k3 ((rd_T55 l0 x62_3).f0.f0) ((rd_T55 l0 x62_3).f0.f1) ((rd_T55 l0 x62_3).f0.f2) ((rd_T55 l0 x62_3).f1.f0) ((rd_T55 l0 x62_3).f1.f1) ((rd_T55 l0 x62_3).f1.f2) ((rd_T55 l0 x62_3).f2) ((rd_T55 l0 x62_3).f3) ((rd_T55 l0 x62_3).f4) t167 _ A64.out).mono ?_
               rintro e w81 ⟨rfl, hb⟩
               refine ⟨_, rfl, ?_⟩
               have n0_ := Aside0.mk (blk_below (g := gb156) (o := .cells #[.int .i64 a1_0, .int .i64 a1_1, .int .i64 a1_2] 31 (0, 0)) (by (with_reducible repeat (first | refine blk_drewN ?_ _ | refine blk_drew ?_ | refine blk_alloc ?_ _)); exact BK156.out) hb)
               have n1_ := Aside0.mk (blk_below (g := gb166) (o := .cells #[.int .i64 ((rd_T55 l0 x62_3).f0.f0), .int .i64 ((rd_T55 l0 x62_3).f0.f1), .int .i64 ((rd_T55 l0 x62_3).f0.f2), .int .i64 ((rd_T55 l0 x62_3).f1.f0), .int .i64 ((rd_T55 l0 x62_3).f1.f1), .int .i64 ((rd_T55 l0 x62_3).f1.f2), .int .i64 ((rd_T55 l0 x62_3).f2), .int .i64 ((rd_T55 l0 x62_3).f3), .int .i64 ((rd_T55 l0 x62_3).f4)] 55 (0, 0)) (by (with_reducible repeat (first | refine blk_drewN ?_ _ | refine blk_drew ?_ | refine blk_alloc ?_ _)); exact BK166.out) hb)
               have n2_ := Aside0.mk (below_step (by repeat (first | (with_reducible first | exact HB.out | apply below_alloc | apply pw_below_drewN | apply below_drew1 | refine below_set ?_ GE156.out | refine below_set ?_ GE166.out) | exact HB.out)) hb)
               clear BK156
               clear BK166
               clear HB
               have BK156 := n0_
               have BK166 := n1_
               have HB := n2_
               clear n0_ n1_ n2_
               (try clear hb)
               (try clear hb2)
               (try clear hk)
               (try clear hi)
               refine hK.out _ _ ⟨(blk_cell BK166.out 0).trans rfl, (blk_cell BK166.out 1).trans rfl, (blk_cell BK166.out 2).trans rfl, (blk_cell BK166.out 3).trans rfl, (blk_cell BK166.out 4).trans rfl, (blk_cell BK166.out 5).trans rfl, (blk_cell BK166.out 6).trans rfl, (blk_cell BK166.out 7).trans rfl, (blk_cell BK166.out 8).trans rfl, (blk_cell BK156.out 0).trans rfl, (blk_cell BK156.out 1).trans rfl, (blk_cell BK156.out 2).trans rfl⟩ (fun hHeld => ?_)
               clear hK K
               refine norm_ (a' := ?_) ?_ ?_
               rotate_left
               ·show Act.put _ (some 68) _ = _
                simp only [Act.put, List.setIfInBounds_toArray, List.set_cons_zero, List.set_cons_succ, i64_w, i32_w]
                rfl
               refine one_ (i := 4) (N := some 71) (bzz 11 31) rfl rfl (one_of HT_.out (by kernel_rfl)) (by decide) (fun K hK => ?_)
               refine goes_ Try.func27 (by kernel_rfl) rfl #[.agg #[.int .i64 ((rd_T55 l0 x62_3).f0.f0), .int .i64 ((rd_T55 l0 x62_3).f0.f1), .int .i64 ((rd_T55 l0 x62_3).f0.f2), .int .i64 ((rd_T55 l0 x62_3).f1.f0), .int .i64 ((rd_T55 l0 x62_3).f1.f1), .int .i64 ((rd_T55 l0 x62_3).f1.f2), .int .i64 ((rd_T55 l0 x62_3).f2), .int .i64 ((rd_T55 l0 x62_3).f3), .int .i64 ((rd_T55 l0 x62_3).f4)], .agg #[.int .i64 a1_0, .int .i64 a1_1, .int .i64 a1_2]] (by rfl) rfl rfl (by (try simp only [List.map_toArray, List.map_cons, List.map_nil]); first | done | rfl | (simp only [List.length_drop, List.length_take]; rfl)) ?_
               with_reducible refine (controller_limit.calls ((rd_T55 l0 x62_3).f0.f0) ((rd_T55 l0 x62_3).f0.f1) ((rd_T55 l0 x62_3).f0.f2) ((rd_T55 l0 x62_3).f1.f0) ((rd_T55 l0 x62_3).f1.f1) ((rd_T55 l0 x62_3).f1.f2) ((rd_T55 l0 x62_3).f2) ((rd_T55 l0 x62_3).f3) ((rd_T55 l0 x62_3).f4) a1_0 a1_1 a1_2 t168 t169 t170 _ A65.out).mono ?_
               rintro e w82 ⟨rfl, hb⟩
               refine ⟨_, rfl, ?_⟩
               have n0_ := Aside0.mk (blk_below (g := gb156) (o := .cells #[.int .i64 a1_0, .int .i64 a1_1, .int .i64 a1_2] 31 (0, 0)) (by (with_reducible repeat (first | refine blk_drewN ?_ _ | refine blk_drew ?_ | refine blk_alloc ?_ _)); exact BK156.out) hb)
               have n1_ := Aside0.mk (blk_below (g := gb166) (o := .cells #[.int .i64 ((rd_T55 l0 x62_3).f0.f0), .int .i64 ((rd_T55 l0 x62_3).f0.f1), .int .i64 ((rd_T55 l0 x62_3).f0.f2), .int .i64 ((rd_T55 l0 x62_3).f1.f0), .int .i64 ((rd_T55 l0 x62_3).f1.f1), .int .i64 ((rd_T55 l0 x62_3).f1.f2), .int .i64 ((rd_T55 l0 x62_3).f2), .int .i64 ((rd_T55 l0 x62_3).f3), .int .i64 ((rd_T55 l0 x62_3).f4)] 55 (0, 0)) (by (with_reducible repeat (first | refine blk_drewN ?_ _ | refine blk_drew ?_ | refine blk_alloc ?_ _)); exact BK166.out) hb)
               have n2_ := Aside0.mk (below_step (by repeat (first | (with_reducible first | exact HB.out | apply below_alloc | apply pw_below_drewN | apply below_drew1 | refine below_set ?_ GE156.out | refine below_set ?_ GE166.out) | exact HB.out)) hb)
               clear BK156
               clear BK166
               clear HB
               have BK156 := n0_
               have BK166 := n1_
               have HB := n2_
               clear n0_ n1_ n2_
               (try clear hb)
               (try clear hb2)
               (try clear hk)
               (try clear hi)
               refine hK.out _ _ ⟨(blk_cell BK166.out 0).trans rfl, (blk_cell BK166.out 1).trans rfl, (blk_cell BK166.out 2).trans rfl, (blk_cell BK166.out 3).trans rfl, (blk_cell BK166.out 4).trans rfl, (blk_cell BK166.out 5).trans rfl, (blk_cell BK166.out 6).trans rfl, (blk_cell BK166.out 7).trans rfl, (blk_cell BK166.out 8).trans rfl, (blk_cell BK156.out 0).trans rfl, (blk_cell BK156.out 1).trans rfl, (blk_cell BK156.out 2).trans rfl⟩ (fun hHeld => ?_)
               clear hK K
               refine norm_ (a' := ?_) ?_ ?_
               rotate_left
               ·show Act.put _ (some 71) _ = _
                simp only [Act.put, List.setIfInBounds_toArray, List.set_cons_zero, List.set_cons_succ, i64_w, i32_w]
                rfl
               refine one_ (i := 5) (N := some 72) (bzz 11 63) rfl rfl (one_of HT_.out (by kernel_rfl)) (by decide) (fun K hK => ?_)
               refine goes_ Try.func25 (by kernel_rfl) rfl #[.int .i64 t167, .agg #[.int .i64 t168, .int .i64 t169, .int .i64 t170]] (by rfl) rfl rfl (by (try simp only [List.map_toArray, List.map_cons, List.map_nil]); first | done | rfl | (simp only [List.length_drop, List.length_take]; rfl)) ?_
               with_reducible refine (profile_Steps.calls k3 t167 t168 t169 t170 t171 t174 _ A66.out).mono ?_
               rintro e w83 ⟨v172, rfl, ho0, hb⟩
               refine ⟨_, rfl, ?_⟩
               have n0_ := Aside0.mk (Kd.R_lower ho0 (below_size (by repeat (first | (with_reducible first | exact HB.out | apply below_alloc | apply pw_below_drewN | apply below_drew1 | refine below_set ?_ GE156.out | refine below_set ?_ GE166.out) | exact HB.out))))
               have n1_ := Aside0.mk (blk_below (g := gb156) (o := .cells #[.int .i64 a1_0, .int .i64 a1_1, .int .i64 a1_2] 31 (0, 0)) (by (with_reducible repeat (first | refine blk_drewN ?_ _ | refine blk_drew ?_ | refine blk_alloc ?_ _)); exact BK156.out) hb)
               have n2_ := Aside0.mk (blk_below (g := gb166) (o := .cells #[.int .i64 ((rd_T55 l0 x62_3).f0.f0), .int .i64 ((rd_T55 l0 x62_3).f0.f1), .int .i64 ((rd_T55 l0 x62_3).f0.f2), .int .i64 ((rd_T55 l0 x62_3).f1.f0), .int .i64 ((rd_T55 l0 x62_3).f1.f1), .int .i64 ((rd_T55 l0 x62_3).f1.f2), .int .i64 ((rd_T55 l0 x62_3).f2), .int .i64 ((rd_T55 l0 x62_3).f3), .int .i64 ((rd_T55 l0 x62_3).f4)] 55 (0, 0)) (by (with_reducible repeat (first | refine blk_drewN ?_ _ | refine blk_drew ?_ | refine blk_alloc ?_ _)); exact BK166.out) hb)
               have n3_ := Aside0.mk (below_step (by repeat (first | (with_reducible first | exact HB.out | apply below_alloc | apply pw_below_drewN | apply below_drew1 | refine below_set ?_ GE156.out | refine below_set ?_ GE166.out) | exact HB.out)) hb)
               clear BK156
               clear BK166
               clear HB
               have HO173 := n0_
               have BK156 := n1_
               have BK166 := n2_
               have HB := n3_
               clear n0_ n1_ n2_ n3_
               (try clear hb)
               (try clear hb2)
               (try clear hk)
               (try clear hi)
               (try clear ho0)
               refine hK.out _ _ ⟨(blk_cell BK166.out 0).trans rfl, (blk_cell BK166.out 1).trans rfl, (blk_cell BK166.out 2).trans rfl, (blk_cell BK166.out 3).trans rfl, (blk_cell BK166.out 4).trans rfl, (blk_cell BK166.out 5).trans rfl, (blk_cell BK166.out 6).trans rfl, (blk_cell BK166.out 7).trans rfl, (blk_cell BK166.out 8).trans rfl, (blk_cell BK156.out 0).trans rfl, (blk_cell BK156.out 1).trans rfl, (blk_cell BK156.out 2).trans rfl⟩ (fun hHeld => ?_)
               clear hK K
               refine norm_ (a' := ?_) ?_ ?_
               rotate_left
               ·show Act.put _ (some 72) _ = _
                simp only [Act.put, List.setIfInBounds_toArray, List.set_cons_zero, List.set_cons_succ, i64_w, i32_w]
                rfl
               refine pu 6 66 (bzz 11 127) (any_of HT_.out (by kernel_rfl)) ?_
               refine pu 7 73 (bzz 11 255) (any_of HT_.out (by kernel_rfl)) ?_
               refine pu 8 74 (bzz 11 511) (any_of HT_.out (by kernel_rfl)) ?_
               refine pu 9 11 (bzz 11 1023) (any_of HT_.out (by kernel_rfl)) ?_
               refine pu 10 12 (bzz 11 2047) (any_of HT_.out (by kernel_rfl)) ?_
               refine done_ (done_of HT_.out (by kernel_rfl)) ?_
               try go_wp2
               go_ret
               exact ⟨by first | rfl | (simp [errW_none, errW_some] <;> rfl) | (simp [*, errW_none, errW_some] <;> rfl), by repeat (first | (with_reducible first | exact HB.out | apply below_alloc | apply pw_below_drewN | apply below_drew1 | refine below_set ?_ GE156.out | refine below_set ?_ GE166.out) | exact HB.out)⟩
             ·rw [if_neg c63] at H
              exact absurd H (by simp)
            ·rw [if_neg c62] at H
             exact absurd H (by simp)
           ·rw [if_neg c61] at H
            have c61b0 : decide (x62_3 < (l0.length : Int)) = false := decide_eq_false c61
            clear c61
            obtain rfl := Option.some.inj H
            go_wp2
            go_ret
            exact ⟨by first | rfl | (simp [errW_none, errW_some] <;> rfl) | (simp [*, errW_none, errW_some] <;> rfl), by repeat (first | (with_reducible first | exact HB.out | apply below_alloc | apply pw_below_drewN | apply below_drew1 | refine below_set ?_ GE156.out) | exact HB.out)⟩
 ·rw [if_neg c4] at H
  have c4b0 : (t157 == 0) = false := beq_eq_false_iff_ne.mpr c4
  have c4b1 : (t157 != 0) = true := bne_iff_ne.mpr c4
  obtain rfl := Option.some.inj H
  go_enter Try.func21, Try.ntmps21
  go_wp2_with (first | ((with_reducible refine gate_dst (N := 3) rfl ?_); refine box_event ?hg (N := 3) ?hd (cs := #[.int .i64 a1_0, .int .i64 a1_1, .int .i64 a1_2]) (t := 31) ?hr ?_; (case hd => rfl); (case hg => rfl); (case hr => first | (go_simp; done) | (go_simp; rfl)); intro gb156 hg w84 hbox hb; have n0_ := Aside0.mk (below_step (by repeat (first | (with_reducible first | exact HB.out | apply below_alloc | apply pw_below_drewN | apply below_drew1) | exact HB.out)) hb); have n1_ := Aside0.mk (hbox); have n2_ := Aside0.mk ((by rw [hg]; exact (below_size (by repeat (first | (with_reducible first | exact HB.out | apply below_alloc | apply pw_below_drewN | apply below_drew1) | exact HB.out))) : w.heap.size ≤ gb156)); have n3_ := Aside0.mk ((by rw [hg]; exact (below_size (by repeat (first | (with_reducible first | exact HB.out | apply below_alloc | apply pw_below_drewN | apply below_drew1) | exact HB.out))) : w.heap.size ≤ gb156)); clear HB; have HB := n0_; have BK156 := n1_; have GW156 := n2_; have GE156 := n3_; clear n0_ n1_ n2_ n3_; clear hb hbox hg; have hcz85_0 : w84.cell? ⟨gb156, 0, none⟩ = some (.int .i64 a1_0) := (blk_cell BK156.out 0).trans rfl; have hcz85_1 : w84.cell? ⟨gb156, 1, none⟩ = some (.int .i64 a1_1) := (blk_cell BK156.out 1).trans rfl; have hcz85_2 : w84.cell? ⟨gb156, 2, none⟩ = some (.int .i64 a1_2) := (blk_cell BK156.out 2).trans rfl; have hfz85_0 := blk_frozen BK156.out 0; have hfz85_1 := blk_frozen BK156.out 1; have hfz85_2 := blk_frozen BK156.out 2) | ((with_reducible refine gate_callee (f := 35) rfl ?_); refine goesL_ (some 14) rfl rfl Try.func35 (by kernel_rfl) rfl #[.agg #[.int .i64 a1_0, .int .i64 a1_1, .int .i64 a1_2]] rfl (by (try simp only [List.map_toArray, List.map_cons, List.map_nil]); first | done | rfl | (simp only [List.length_drop, List.length_take]; rfl)) ?_; (with_reducible refine (profile_Valid.calls a1_0 a1_1 a1_2 t157 _ A3.out).mono ?_); rintro e w86 ⟨rfl, hb⟩; refine ⟨_, rfl, ?_⟩; have n0_ := Aside0.mk (blk_below (g := gb156) (o := .cells #[.int .i64 a1_0, .int .i64 a1_1, .int .i64 a1_2] 31 (0, 0)) (by (with_reducible repeat (first | refine blk_drewN ?_ _ | refine blk_drew ?_ | refine blk_alloc ?_ _)); exact BK156.out) hb); have n1_ := Aside0.mk (below_step (by repeat (first | (with_reducible first | exact HB.out | apply below_alloc | apply pw_below_drewN | apply below_drew1 | refine below_set ?_ GE156.out) | exact HB.out)) hb); clear BK156; clear HB; have BK156 := n0_; have HB := n1_; clear n0_ n1_; (try clear hb); (try clear hb2); (try clear hk); (try clear hi)))
  go_ret
  exact ⟨by first | rfl | (simp [errW_none, errW_some] <;> rfl) | (simp [*, errW_none, errW_some] <;> rfl), by repeat (first | (with_reducible first | exact HB.out | apply below_alloc | apply pw_below_drewN | apply below_drew1 | refine below_set ?_ GE156.out) | exact HB.out)⟩
end Go.Proofs.Ytmaegpblaihepaa.F
