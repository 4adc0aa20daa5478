-- The machine side of a proof, written by a program of the session out of Lean's print of the loaded functions. Lean checks it.
import Derived.Test.YtdfilkofhgmakaaFx0
import Derived.Test.YtdfilkofhgmakaaFx34
import Derived.Test.YtdfilkofhgmakaaFx35
namespace Go.Proofs.Ytdfilkofhgmakaa.F
open Go.RowKit Go.Proofs.YtdfilkofhgmakaaW.PrintWords Go.Proofs.YtdfilkofhgmakaaW.PrintLast Go.Proofs.YtdfilkofhgmakaaW.PrintMore
attribute [local go_sem] max2_int min2_int max_two min_two max_three min_three max_four min_four   -- for this text's walks alone
set_option linter.unusedVariables false
set_option linter.unusedSimpArgs false
mutual
def swarfref49_Position.j0 : Nat → Int → Int → Bool → Int → Int → Int → Int → Int → Int → Option (Int × Int × Int × Int)
 | 0, _, _, _, _, _, _, _, _, _ => none
 | k + 1, x2, x3, x20, x296000, x296001, x296002, x297000, x297001, x297002 => if x20 = true then (some (0, 0, 0, 1)) else ((swarfref49_far.f x3).bind fun t298 => (if t298 = true then (swarfref49_Position.j1 k x2 x3 true x296000 x296001 x296002 x297000 x297001 x297002) else ((swarfref49_far.f x296000).bind fun t299 => (if t299 = true then (swarfref49_Position.j1 k x2 x3 true x296000 x296001 x296002 x297000 x297001 x297002) else ((swarfref49_far.f x296001).bind fun t300 => (if t300 = true then (swarfref49_Position.j1 k x2 x3 true x296000 x296001 x296002 x297000 x297001 x297002) else ((swarfref49_far.f x296002).bind fun t301 => (if t301 = true then (swarfref49_Position.j1 k x2 x3 true x296000 x296001 x296002 x297000 x297001 x297002) else ((swarfref49_far.f x297000).bind fun t302 => (if t302 = true then (swarfref49_Position.j1 k x2 x3 true x296000 x296001 x296002 x297000 x297001 x297002) else ((swarfref49_far.f x297001).bind fun t303 => (if t303 = true then (swarfref49_Position.j1 k x2 x3 true x296000 x296001 x296002 x297000 x297001 x297002) else ((swarfref49_far.f x297002).bind fun t304 => (swarfref49_Position.j1 k x2 x3 t304 x296000 x296001 x296002 x297000 x297001 x297002))))))))))))))
def swarfref49_Position.j1 : Nat → Int → Int → Bool → Int → Int → Int → Int → Int → Int → Option (Int × Int × Int × Int)
 | 0, _, _, _, _, _, _, _, _, _ => none
 | k + 1, x2, x3, x53, x296000, x296001, x296002, x297000, x297001, x297002 => if x53 = true then (some (0, 0, 0, 11)) else ((swarfref49_between.f x296000 x297000 x2 x3).bind fun t305 => ((swarfref49_between.f x296001 x297001 x2 x3).bind fun t306 => ((swarfref49_between.f x296002 x297002 x2 x3).bind fun t307 => (some (t305, t306, t307, 0)))))
end
def swarfref49_Position.f (k : Nat) (a0_0 : Int) (a0_1 : Int) (a0_2 : Int) (a1_0 : Int) (a1_1 : Int) (a1_2 : Int) (a2 : Int) (a3 : Int) : Option (Int × Int × Int × Int) := if a3 < 1 then (swarfref49_Position.j0 k a2 a3 true a0_0 a0_1 a0_2 a1_0 a1_1 a1_2) else (if a2 < 0 then (swarfref49_Position.j0 k a2 a3 true a0_0 a0_1 a0_2 a1_0 a1_1 a1_2) else (swarfref49_Position.j0 k a2 a3 (decide (a2 > a3)) a0_0 a0_1 a0_2 a1_0 a1_1 a1_2))
theorem swarfref49_Position.mono_l : ∀ k, (∀ y0 y1 y2 y3 y4 y5 y6 y7 y8, LeO (swarfref49_Position.j0 k y0 y1 y2 y3 y4 y5 y6 y7 y8) (swarfref49_Position.j0 (k + 1) y0 y1 y2 y3 y4 y5 y6 y7 y8)) ∧ (∀ y0 y1 y2 y3 y4 y5 y6 y7 y8, LeO (swarfref49_Position.j1 k y0 y1 y2 y3 y4 y5 y6 y7 y8) (swarfref49_Position.j1 (k + 1) y0 y1 y2 y3 y4 y5 y6 y7 y8))
 | 0 => ⟨fun _ _ _ _ _ _ _ _ _ r h => by simp [swarfref49_Position.j0] at h, fun _ _ _ _ _ _ _ _ _ r h => by simp [swarfref49_Position.j1] at h⟩
 | k + 1 => by
  obtain ⟨ih0, ih1⟩ := swarfref49_Position.mono_l k
  refine ⟨?_, ?_⟩
  ·intro y0 y1 y2 y3 y4 y5 y6 y7 y8
   unfold swarfref49_Position.j0
   repeat' first
   | (with_reducible exact ih0 _ _ _ _ _ _ _ _ _)
   | (with_reducible exact ih1 _ _ _ _ _ _ _ _ _)
   | (with_reducible exact LeO.refl _)
   | (with_reducible exact LeO.none _)
   | (with_reducible refine LeO.ite ?_ ?_)
   | (with_reducible refine LeO.bind ?_ (fun _ => ?_))
   | exact ih0 _ _ _ _ _ _ _ _ _
   | exact ih1 _ _ _ _ _ _ _ _ _
   | exact LeO.none _
   | refine LeO.ite ?_ ?_
   | refine LeO.bind ?_ (fun _ => ?_)
  ·intro y0 y1 y2 y3 y4 y5 y6 y7 y8
   unfold swarfref49_Position.j1
   repeat' first
   | (with_reducible exact ih0 _ _ _ _ _ _ _ _ _)
   | (with_reducible exact ih1 _ _ _ _ _ _ _ _ _)
   | (with_reducible exact LeO.refl _)
   | (with_reducible exact LeO.none _)
   | (with_reducible refine LeO.ite ?_ ?_)
   | (with_reducible refine LeO.bind ?_ (fun _ => ?_))
   | exact ih0 _ _ _ _ _ _ _ _ _
   | exact ih1 _ _ _ _ _ _ _ _ _
   | exact LeO.none _
   | refine LeO.ite ?_ ?_
   | refine LeO.bind ?_ (fun _ => ?_)
theorem swarfref49_Position.mono : ∀ a0 a1 a2 a3 a4 a5 a6 a7 k, LeO (swarfref49_Position.f k a0 a1 a2 a3 a4 a5 a6 a7) (swarfref49_Position.f (k + 1) a0 a1 a2 a3 a4 a5 a6 a7) := by
 intro a0 a1 a2 a3 a4 a5 a6 a7 k
 obtain ⟨ih0, ih1⟩ := swarfref49_Position.mono_l k
 unfold swarfref49_Position.f
 repeat' first
   | (with_reducible exact ih0 _ _ _ _ _ _ _ _ _)
   | (with_reducible exact ih1 _ _ _ _ _ _ _ _ _)
   | (with_reducible exact LeO.refl _)
   | (with_reducible exact LeO.none _)
   | (with_reducible refine LeO.ite ?_ ?_)
   | (with_reducible refine LeO.bind ?_ (fun _ => ?_))
   | exact ih0 _ _ _ _ _ _ _ _ _
   | exact ih1 _ _ _ _ _ _ _ _ _
   | exact LeO.none _
   | refine LeO.ite ?_ ?_
   | refine LeO.bind ?_ (fun _ => ?_)
def swarfref49_Position.T5 : Bool × List (List Nat × List Nat) := (true, [([], []), ([0], [0]), ([], []), ([2], [2]), ([], []), ([], []), ([1, 3, 4, 5], [1, 3, 4, 5]), ([], []), ([7], [7]), ([], []), ([9], [9]), ([], []), ([], []), ([8, 10, 11, 12, 6], [8, 10, 11, 12]), ([], []), ([14], [14]), ([], []), ([16], [16]), ([], []), ([], []), ([15, 17, 18, 19, 13], [15, 17, 18, 19]), ([6, 13, 20], [6, 13, 20]), ([21, 20, 0, 1, 2, 3, 4, 5, 6, 7, 8, 9, 10, 11, 12, 13, 14, 15, 16, 17, 18, 19, 20, 21], [21]), ([22, 0, 1, 2, 3, 4, 5, 6, 7, 8, 9, 10, 11, 12, 13, 14, 15, 16, 17, 18, 19, 20, 21, 22], [])])
def swarfref49_Position.B5 : List Nat := [0, 1, 0, 4, 0, 0, 63, 0, 128, 0, 512, 0, 0, 8191, 0, 16384, 0, 65536, 0, 0, 1048575, 2097151, 4194303, 8388607]
theorem swarfref49_Position.tab5 : rtab .any (opsOf Try.f27 5) = swarfref49_Position.T5 := by kernel_rfl
theorem swarfref49_Position.bits5 : waitsOk swarfref49_Position.T5.2 swarfref49_Position.B5 = true := by kernel_rfl
set_option maxHeartbeats 8000000 in
set_option maxRecDepth 100000 in
theorem swarfref49_Position.calls (k : Nat) (a0_0 : Int) (a0_1 : Int) (a0_2 : Int) (a1_0 : Int) (a1_1 : Int) (a1_2 : Int) (a2 : Int) (a3 : Int) (r1 : Int) (r2 : Int) (r3 : Int) (r4 : Int) (w : World) (h : swarfref49_Position.f k a0_0 a0_1 a0_2 a1_0 a1_1 a1_2 a2 a3 = some (r1, r2, r3, r4)) :
  Calls Try.prog 27 #[.agg #[.int .i64 a0_0, .int .i64 a0_1, .int .i64 a0_2], .agg #[.int .i64 a1_0, .int .i64 a1_1, .int .i64 a1_2], .int .i64 a2, .int .i64 a3] w fun e w' => e = .returned (.tuple #[.agg #[.int .i64 r1, .int .i64 r2, .int .i64 r3], .int .i64 r4]) ∧ Below w.heap.size w w' := by
 have hu47 := Try.underlying47
 have HB := Aside0.mk (Below.refl w.heap.size w)
 have H : (if a3 < 1 then (swarfref49_Position.j0 k a2 a3 true a0_0 a0_1 a0_2 a1_0 a1_1 a1_2) else (if a2 < 0 then (swarfref49_Position.j0 k a2 a3 true a0_0 a0_1 a0_2 a1_0 a1_1 a1_2) else (swarfref49_Position.j0 k a2 a3 (decide (a2 > a3)) a0_0 a0_1 a0_2 a1_0 a1_1 a1_2))) = some (r1, r2, r3, r4) := h
 clear h
 have HC5 := Aside0.mk H
 clear H
 go_enter Try.func27, Try.ntmps27
 go_upto_region 1 with (first | ((with_reducible refine gate_dst (N := 4) rfl ?_); refine box_event ?hg (N := 4) ?hd (cs := #[.int .i64 a0_0, .int .i64 a0_1, .int .i64 a0_2]) (t := 47) ?hr ?_; (case hd => rfl); (case hg => rfl); (case hr => first | (go_simp; done) | (go_simp; rfl)); intro gb295 hg w6 hbox hb; have n0_ := Aside0.mk (below_step (by repeat (first | (with_reducible first | exact HB.out | apply below_alloc | apply pw_below_drewN | apply below_drew1) | exact HB.out)) hb); have n1_ := Aside0.mk (hbox); have n2_ := Aside0.mk ((by rw [hg]; exact (below_size (by repeat (first | (with_reducible first | exact HB.out | apply below_alloc | apply pw_below_drewN | apply below_drew1) | exact HB.out))) : w.heap.size ≤ gb295)); have n3_ := Aside0.mk ((by rw [hg]; exact (below_size (by repeat (first | (with_reducible first | exact HB.out | apply below_alloc | apply pw_below_drewN | apply below_drew1) | exact HB.out))) : w.heap.size ≤ gb295)); clear HB; have HB := n0_; have BK295 := n1_; have GW295 := n2_; have GE295 := n3_; clear n0_ n1_ n2_ n3_; clear hb hbox hg) | ((with_reducible refine gate_dst (N := 5) rfl ?_); refine box_event ?hg (N := 5) ?hd (cs := #[.int .i64 a1_0, .int .i64 a1_1, .int .i64 a1_2]) (t := 47) ?hr ?_; (case hd => rfl); (case hg => rfl); (case hr => first | (go_simp; done) | (go_simp; rfl)); intro gb296 hg w7 hbox hb; have n0_ := Aside0.mk (blk_below (g := gb295) (o := .cells #[.int .i64 a0_0, .int .i64 a0_1, .int .i64 a0_2] 47 (0, 0)) (by (with_reducible repeat (first | refine blk_drewN ?_ _ | refine blk_drew ?_ | refine blk_alloc ?_ _)); exact BK295.out) hb); have n1_ := Aside0.mk (below_step (by repeat (first | (with_reducible first | exact HB.out | apply below_alloc | apply pw_below_drewN | apply below_drew1 | refine below_set ?_ GE295.out) | exact HB.out)) hb); have n2_ := Aside0.mk (hbox); have n3_ := Aside0.mk ((by rw [hg]; exact (below_size (by repeat (first | (with_reducible first | exact HB.out | apply below_alloc | apply pw_below_drewN | apply below_drew1 | refine below_set ?_ GE295.out) | exact HB.out))) : w.heap.size ≤ gb296)); have n4_ := Aside0.mk ((by rw [hg]; exact (below_size (by repeat (first | (with_reducible first | exact HB.out | apply below_alloc | apply pw_below_drewN | apply below_drew1 | refine below_set ?_ GE295.out) | exact HB.out))) : w.heap.size ≤ gb296)); have n5_ := Aside0.mk ((by rw [hg]; exact Nat.ne_of_lt (blk_lt (g := gb295) (o := .cells #[.int .i64 a0_0, .int .i64 a0_1, .int .i64 a0_2] 47 (0, 0)) (by (with_reducible repeat (first | refine blk_drewN ?_ _ | refine blk_drew ?_ | refine blk_alloc ?_ _)); exact BK295.out)) : gb295 ≠ gb296)); have n6_ := Aside0.mk ((by rw [hg]; exact Nat.ne_of_gt (blk_lt (g := gb295) (o := .cells #[.int .i64 a0_0, .int .i64 a0_1, .int .i64 a0_2] 47 (0, 0)) (by (with_reducible repeat (first | refine blk_drewN ?_ _ | refine blk_drew ?_ | refine blk_alloc ?_ _)); exact BK295.out)) : gb296 ≠ gb295)); clear BK295; clear HB; have BK295 := n0_; have HB := n1_; have BK296 := n2_; have GW296 := n3_; have GE296 := n4_; have NB295_296 := n5_; have NB296_295 := n6_; clear n0_ n1_ n2_ n3_ n4_ n5_ n6_; clear hb hbox hg) | ((with_reducible refine gate_dst (N := 8) rfl ?_); refine box_event ?hg (N := 8) ?hd (cs := #[.int .i64 0, .int .i64 0, .int .i64 0]) (t := 47) ?hr ?_; (case hd => rfl); (case hg => rfl); (case hr => first | (go_simp; done) | (go_simp; rfl)); intro gb297 hg w8 hbox hb; have n0_ := Aside0.mk (blk_below (g := gb295) (o := .cells #[.int .i64 a0_0, .int .i64 a0_1, .int .i64 a0_2] 47 (0, 0)) (by (with_reducible repeat (first | refine blk_drewN ?_ _ | refine blk_drew ?_ | refine blk_alloc ?_ _)); exact BK295.out) hb); have n1_ := Aside0.mk (blk_below (g := gb296) (o := .cells #[.int .i64 a1_0, .int .i64 a1_1, .int .i64 a1_2] 47 (0, 0)) (by (with_reducible repeat (first | refine blk_drewN ?_ _ | refine blk_drew ?_ | refine blk_alloc ?_ _)); exact BK296.out) hb); have n2_ := Aside0.mk (below_step (by repeat (first | (with_reducible first | exact HB.out | apply below_alloc | apply pw_below_drewN | apply below_drew1 | refine below_set ?_ GE295.out | refine below_set ?_ GE296.out) | exact HB.out)) hb); have n3_ := Aside0.mk (hbox); have n4_ := Aside0.mk ((by rw [hg]; exact (below_size (by repeat (first | (with_reducible first | exact HB.out | apply below_alloc | apply pw_below_drewN | apply below_drew1 | refine below_set ?_ GE295.out | refine below_set ?_ GE296.out) | exact HB.out))) : w.heap.size ≤ gb297)); have n5_ := Aside0.mk ((by rw [hg]; exact (below_size (by repeat (first | (with_reducible first | exact HB.out | apply below_alloc | apply pw_below_drewN | apply below_drew1 | refine below_set ?_ GE295.out | refine below_set ?_ GE296.out) | exact HB.out))) : w.heap.size ≤ gb297)); have n6_ := Aside0.mk ((by rw [hg]; exact Nat.ne_of_lt (blk_lt (g := gb295) (o := .cells #[.int .i64 a0_0, .int .i64 a0_1, .int .i64 a0_2] 47 (0, 0)) (by (with_reducible repeat (first | refine blk_drewN ?_ _ | refine blk_drew ?_ | refine blk_alloc ?_ _)); exact BK295.out)) : gb295 ≠ gb297)); have n7_ := Aside0.mk ((by rw [hg]; exact Nat.ne_of_gt (blk_lt (g := gb295) (o := .cells #[.int .i64 a0_0, .int .i64 a0_1, .int .i64 a0_2] 47 (0, 0)) (by (with_reducible repeat (first | refine blk_drewN ?_ _ | refine blk_drew ?_ | refine blk_alloc ?_ _)); exact BK295.out)) : gb297 ≠ gb295)); have n8_ := Aside0.mk ((by rw [hg]; exact Nat.ne_of_lt (blk_lt (g := gb296) (o := .cells #[.int .i64 a1_0, .int .i64 a1_1, .int .i64 a1_2] 47 (0, 0)) (by (with_reducible repeat (first | refine blk_drewN ?_ _ | refine blk_drew ?_ | refine blk_alloc ?_ _)); exact BK296.out)) : gb296 ≠ gb297)); have n9_ := Aside0.mk ((by rw [hg]; exact Nat.ne_of_gt (blk_lt (g := gb296) (o := .cells #[.int .i64 a1_0, .int .i64 a1_1, .int .i64 a1_2] 47 (0, 0)) (by (with_reducible repeat (first | refine blk_drewN ?_ _ | refine blk_drew ?_ | refine blk_alloc ?_ _)); exact BK296.out)) : gb297 ≠ gb296)); clear BK295; clear BK296; clear HB; have BK295 := n0_; have BK296 := n1_; have HB := n2_; have BK297 := n3_; have GW297 := n4_; have GE297 := n5_; have NB295_297 := n6_; have NB297_295 := n7_; have NB296_297 := n8_; have NB297_296 := n9_; clear n0_ n1_ n2_ n3_ n4_ n5_ n6_ n7_ n8_ n9_; clear hb hbox hg))
 (try simp only [Act.put, List.setIfInBounds_toArray, List.set_cons_zero, List.set_cons_succ])
 go_cut [20] (fun v20 wc => ∃ (kq : Nat) (x20_4 : Bool), v20 = .bool x20_4 ∧ Aside0 (swarfref49_Position.j0 kq a2 a3 x20_4 a0_0 a0_1 a0_2 a1_0 a1_1 a1_2 = some (r1, r2, r3, r4)) ∧ Aside0 (kq ≤ k) ∧ Aside0 (wc.heap[gb295]? = some (.cells #[.int .i64 a0_0, .int .i64 a0_1, .int .i64 a0_2] 47 (0, 0))) ∧ Aside0 (wc.heap[gb296]? = some (.cells #[.int .i64 a1_0, .int .i64 a1_1, .int .i64 a1_2] 47 (0, 0))) ∧ Aside0 (wc.heap[gb297]? = some (.cells #[.int .i64 0, .int .i64 0, .int .i64 0] 47 (0, 0))) ∧ Aside0 (Below w.heap.size w wc))
 case first =>
  have H := HC5.out
  clear HC5
  by_cases c9 : a3 < 1
  ·rw [if_pos c9] at H
   have c9b0 : decide (a3 < 1) = true := decide_eq_true c9
   clear c9
   (first | rw [c9b0] | (simp only [i64_w, i32_w]; rw [c9b0]) | skip)
   have H' := Aside0.mk H
   clear H
   go_wp2
   go_meet
   case rel => exact ⟨_, (true), (by first | rfl | (simp; done) | (simp [*]; done)), H', ⟨by first | omega | exact Nat.le_refl _⟩, ⟨by (with_reducible repeat (first | refine blk_drewN ?_ _ | refine blk_drew ?_ | refine blk_alloc ?_ _)); exact BK295.out⟩, ⟨by (with_reducible repeat (first | refine blk_drewN ?_ _ | refine blk_drew ?_ | refine blk_alloc ?_ _)); exact BK296.out⟩, ⟨by (with_reducible repeat (first | refine blk_drewN ?_ _ | refine blk_drew ?_ | refine blk_alloc ?_ _)); exact BK297.out⟩, ⟨by repeat (first | (with_reducible first | exact HB.out | apply below_alloc | apply pw_below_drewN | apply below_drew1 | refine below_set ?_ GE295.out | refine below_set ?_ GE296.out | refine below_set ?_ GE297.out) | exact HB.out)⟩⟩
  ·rw [if_neg c9] at H
   have c9b0 : decide (a3 < 1) = false := decide_eq_false c9
   clear c9
   (first | rw [c9b0] | (simp only [i64_w, i32_w]; rw [c9b0]) | skip)
   by_cases c10 : a2 < 0
   ·rw [if_pos c10] at H
    have c10b0 : decide (a2 < 0) = true := decide_eq_true c10
    clear c10
    have H' := Aside0.mk H
    clear H
    go_wp2
    go_meet
    case rel => exact ⟨_, (true), (by first | rfl | (simp; done) | (simp [*]; done)), H', ⟨by first | omega | exact Nat.le_refl _⟩, ⟨by (with_reducible repeat (first | refine blk_drewN ?_ _ | refine blk_drew ?_ | refine blk_alloc ?_ _)); exact BK295.out⟩, ⟨by (with_reducible repeat (first | refine blk_drewN ?_ _ | refine blk_drew ?_ | refine blk_alloc ?_ _)); exact BK296.out⟩, ⟨by (with_reducible repeat (first | refine blk_drewN ?_ _ | refine blk_drew ?_ | refine blk_alloc ?_ _)); exact BK297.out⟩, ⟨by repeat (first | (with_reducible first | exact HB.out | apply below_alloc | apply pw_below_drewN | apply below_drew1 | refine below_set ?_ GE295.out | refine below_set ?_ GE296.out | refine below_set ?_ GE297.out) | exact HB.out)⟩⟩
   ·rw [if_neg c10] at H
    have c10b0 : decide (a2 < 0) = false := decide_eq_false c10
    clear c10
    have H' := Aside0.mk H
    clear H
    go_wp2
    go_meet
    case rel => exact ⟨_, (decide (a2 > a3)), (by first | rfl | (simp; done) | (simp [*]; done)), H', ⟨by first | omega | exact Nat.le_refl _⟩, ⟨by (with_reducible repeat (first | refine blk_drewN ?_ _ | refine blk_drew ?_ | refine blk_alloc ?_ _)); exact BK295.out⟩, ⟨by (with_reducible repeat (first | refine blk_drewN ?_ _ | refine blk_drew ?_ | refine blk_alloc ?_ _)); exact BK296.out⟩, ⟨by (with_reducible repeat (first | refine blk_drewN ?_ _ | refine blk_drew ?_ | refine blk_alloc ?_ _)); exact BK297.out⟩, ⟨by repeat (first | (with_reducible first | exact HB.out | apply below_alloc | apply pw_below_drewN | apply below_drew1 | refine below_set ?_ GE295.out | refine below_set ?_ GE296.out | refine below_set ?_ GE297.out) | exact HB.out)⟩⟩
 case rest =>
  clear HC5
  try clear c1
  try clear c2
  try clear p2
  try clear c9
  try clear c9b0
  try clear c10
  try clear c10b0
  obtain ⟨kq, x20_4, rfl, HA, HJ4, BK295, BK296, BK297, HB⟩ := hcut
  cases kq with
  | zero => exact absurd HA.out (by simp [swarfref49_Position.j0])
  | succ kj4 =>
   have H := HA.out
   clear HA
   simp only [swarfref49_Position.j0] at H
   by_cases c11 : x20_4 = true
   ·subst c11
    have H1 : (some (0, 0, 0, 1)) = some (r1, r2, r3, r4) := by rw [if_pos rfl] at H; exact H
    clear H
    have H := H1
    clear H1
    simp only [Option.some.injEq, Prod.mk.injEq] at H
    obtain ⟨rfl, rfl, rfl, rfl⟩ := H
    have hnb12 := NB297_295.out
    have hnc12 := NB295_297.out
    have hnb13 := NB297_296.out
    have hnc13 := NB296_297.out
    have hcz14_0 : wc.cell? ⟨gb297, 0, none⟩ = some (.int .i64 0) := (blk_cell BK297.out 0).trans rfl
    have hcz14_1 : wc.cell? ⟨gb297, 1, none⟩ = some (.int .i64 0) := (blk_cell BK297.out 1).trans rfl
    have hcz14_2 : wc.cell? ⟨gb297, 2, none⟩ = some (.int .i64 0) := (blk_cell BK297.out 2).trans rfl
    have hfz14_0 := blk_frozen BK297.out 0
    have hfz14_1 := blk_frozen BK297.out 1
    have hfz14_2 := blk_frozen BK297.out 2
    go_wp2
    refine bodyPost_ret (results_ct rfl _ _ gb297 47 #[.int .i64 0, .int .i64 0, .int .i64 0] (0, 0) _ rfl (by (with_reducible repeat (first | refine blk_drewN ?_ _ | refine blk_drew ?_ | refine blk_alloc ?_ _)); refine blk_put (cs := #[.int .i64 0, .int .i64 0, .int .i64 0]) ?_ 2 _ rfl; (with_reducible repeat (first | refine blk_drewN ?_ _ | refine blk_drew ?_ | refine blk_alloc ?_ _)); refine blk_put (cs := #[.int .i64 0, .int .i64 0, .int .i64 0]) ?_ 1 _ rfl; (with_reducible repeat (first | refine blk_drewN ?_ _ | refine blk_drew ?_ | refine blk_alloc ?_ _)); refine blk_put (cs := #[.int .i64 0, .int .i64 0, .int .i64 0]) ?_ 0 _ rfl; (with_reducible repeat (first | refine blk_drewN ?_ _ | refine blk_drew ?_ | refine blk_alloc ?_ _)); exact BK297.out) Try.underlying47 rfl (by kernel_rfl)) rfl ?_
    exact ⟨by first | rfl | (simp [errW_none, errW_some] <;> rfl) | (simp [*, errW_none, errW_some] <;> rfl), by repeat (first | (with_reducible first | exact HB.out | apply below_alloc | apply pw_below_drewN | apply below_drew1 | refine below_set ?_ GE295.out | refine below_set ?_ GE296.out | refine below_set ?_ GE297.out) | exact HB.out)⟩
   ·replace c11 := Bool.eq_false_iff.mpr c11
    subst c11
    have H1 : ((swarfref49_far.f a3).bind fun t298 => (if t298 = true then (swarfref49_Position.j1 kj4 a2 a3 true a0_0 a0_1 a0_2 a1_0 a1_1 a1_2) else ((swarfref49_far.f a0_0).bind fun t299 => (if t299 = true then (swarfref49_Position.j1 kj4 a2 a3 true a0_0 a0_1 a0_2 a1_0 a1_1 a1_2) else ((swarfref49_far.f a0_1).bind fun t300 => (if t300 = true then (swarfref49_Position.j1 kj4 a2 a3 true a0_0 a0_1 a0_2 a1_0 a1_1 a1_2) else ((swarfref49_far.f a0_2).bind fun t301 => (if t301 = true then (swarfref49_Position.j1 kj4 a2 a3 true a0_0 a0_1 a0_2 a1_0 a1_1 a1_2) else ((swarfref49_far.f a1_0).bind fun t302 => (if t302 = true then (swarfref49_Position.j1 kj4 a2 a3 true a0_0 a0_1 a0_2 a1_0 a1_1 a1_2) else ((swarfref49_far.f a1_1).bind fun t303 => (if t303 = true then (swarfref49_Position.j1 kj4 a2 a3 true a0_0 a0_1 a0_2 a1_0 a1_1 a1_2) else ((swarfref49_far.f a1_2).bind fun t304 => (swarfref49_Position.j1 kj4 a2 a3 t304 a0_0 a0_1 a0_2 a1_0 a1_1 a1_2)))))))))))))) = some (r1, r2, r3, r4) := by rw [if_neg (show ¬ (false = true) by decide)] at H; exact H
    clear H
    have H := H1
    clear H1
    have HC15 := Aside0.mk H
    clear H
    go_upto_region 3 with (fail)
    go_cut [53] (fun v53 wc => ∃ (kq : Nat) (x53_14 : Bool), v53 = .bool x53_14 ∧ Aside0 (swarfref49_Position.j1 kq a2 a3 x53_14 a0_0 a0_1 a0_2 a1_0 a1_1 a1_2 = some (r1, r2, r3, r4)) ∧ Aside0 (kq ≤ kj4) ∧ Aside0 (wc.heap[gb295]? = some (.cells #[.int .i64 a0_0, .int .i64 a0_1, .int .i64 a0_2] 47 (0, 0))) ∧ Aside0 (wc.heap[gb296]? = some (.cells #[.int .i64 a1_0, .int .i64 a1_1, .int .i64 a1_2] 47 (0, 0))) ∧ Aside0 (wc.heap[gb297]? = some (.cells #[.int .i64 0, .int .i64 0, .int .i64 0] 47 (0, 0))) ∧ Aside0 (Below w.heap.size w wc))
    case first =>
     have H := HC15.out
     clear HC15
     replace H := Option.bind_eq_some_iff.mp H
     obtain ⟨t298, A160, H⟩ := H
     replace H : (if t298 = true then (swarfref49_Position.j1 kj4 a2 a3 true a0_0 a0_1 a0_2 a1_0 a1_1 a1_2) else ((swarfref49_far.f a0_0).bind fun t299 => (if t299 = true then (swarfref49_Position.j1 kj4 a2 a3 true a0_0 a0_1 a0_2 a1_0 a1_1 a1_2) else ((swarfref49_far.f a0_1).bind fun t300 => (if t300 = true then (swarfref49_Position.j1 kj4 a2 a3 true a0_0 a0_1 a0_2 a1_0 a1_1 a1_2) else ((swarfref49_far.f a0_2).bind fun t301 => (if t301 = true then (swarfref49_Position.j1 kj4 a2 a3 true a0_0 a0_1 a0_2 a1_0 a1_1 a1_2) else ((swarfref49_far.f a1_0).bind fun t302 => (if t302 = true then (swarfref49_Position.j1 kj4 a2 a3 true a0_0 a0_1 a0_2 a1_0 a1_1 a1_2) else ((swarfref49_far.f a1_1).bind fun t303 => (if t303 = true then (swarfref49_Position.j1 kj4 a2 a3 true a0_0 a0_1 a0_2 a1_0 a1_1 a1_2) else ((swarfref49_far.f a1_2).bind fun t304 => (swarfref49_Position.j1 kj4 a2 a3 t304 a0_0 a0_1 a0_2 a1_0 a1_1 a1_2))))))))))))) = some (r1, r2, r3, r4) := H
     have A16 := Aside0.mk A160
     clear A160
     by_cases c17 : t298 = true
     ·subst c17
      have H1 : (swarfref49_Position.j1 kj4 a2 a3 true a0_0 a0_1 a0_2 a1_0 a1_1 a1_2) = some (r1, r2, r3, r4) := by rw [if_pos rfl] at H; exact H
      clear H
      have H := H1
      clear H1
      have H' := Aside0.mk H
      clear H
      go_wp2_with (first | ((with_reducible refine gate_callee (f := 40) rfl ?_); refine goesL_ (some 23) rfl rfl Try.func40 (by kernel_rfl) rfl #[.int .i64 a3] rfl (by (try simp only [List.map_toArray, List.map_cons, List.map_nil]); first | done | rfl | (simp only [List.length_drop, List.length_take]; rfl)) ?_; (with_reducible refine (swarfref49_far.calls a3 true _ A16.out).mono ?_); rintro e w' ⟨rfl, ⟨nd, rfl⟩⟩; refine ⟨_, rfl, ?_⟩))
      go_meet
      case rel => exact ⟨_, (true), (by first | rfl | (simp; done) | (simp [*]; done)), H', ⟨by have := HJ4.out; first | omega | exact Nat.le_refl _⟩, ⟨by (with_reducible repeat (first | refine blk_drewN ?_ _ | refine blk_drew ?_ | refine blk_alloc ?_ _)); exact BK295.out⟩, ⟨by (with_reducible repeat (first | refine blk_drewN ?_ _ | refine blk_drew ?_ | refine blk_alloc ?_ _)); exact BK296.out⟩, ⟨by (with_reducible repeat (first | refine blk_drewN ?_ _ | refine blk_drew ?_ | refine blk_alloc ?_ _)); exact BK297.out⟩, ⟨by repeat (first | (with_reducible first | exact HB.out | apply below_alloc | apply pw_below_drewN | apply below_drew1 | refine below_set ?_ GE295.out | refine below_set ?_ GE296.out | refine below_set ?_ GE297.out) | exact HB.out)⟩⟩
     ·replace c17 := Bool.eq_false_iff.mpr c17
      subst c17
      have H1 : ((swarfref49_far.f a0_0).bind fun t299 => (if t299 = true then (swarfref49_Position.j1 kj4 a2 a3 true a0_0 a0_1 a0_2 a1_0 a1_1 a1_2) else ((swarfref49_far.f a0_1).bind fun t300 => (if t300 = true then (swarfref49_Position.j1 kj4 a2 a3 true a0_0 a0_1 a0_2 a1_0 a1_1 a1_2) else ((swarfref49_far.f a0_2).bind fun t301 => (if t301 = true then (swarfref49_Position.j1 kj4 a2 a3 true a0_0 a0_1 a0_2 a1_0 a1_1 a1_2) else ((swarfref49_far.f a1_0).bind fun t302 => (if t302 = true then (swarfref49_Position.j1 kj4 a2 a3 true a0_0 a0_1 a0_2 a1_0 a1_1 a1_2) else ((swarfref49_far.f a1_1).bind fun t303 => (if t303 = true then (swarfref49_Position.j1 kj4 a2 a3 true a0_0 a0_1 a0_2 a1_0 a1_1 a1_2) else ((swarfref49_far.f a1_2).bind fun t304 => (swarfref49_Position.j1 kj4 a2 a3 t304 a0_0 a0_1 a0_2 a1_0 a1_1 a1_2)))))))))))) = some (r1, r2, r3, r4) := by rw [if_neg (show ¬ (false = true) by decide)] at H; exact H
      clear H
      have H := H1
      clear H1
      replace H := Option.bind_eq_some_iff.mp H
      obtain ⟨t299, A180, H⟩ := H
      replace H : (if t299 = true then (swarfref49_Position.j1 kj4 a2 a3 true a0_0 a0_1 a0_2 a1_0 a1_1 a1_2) else ((swarfref49_far.f a0_1).bind fun t300 => (if t300 = true then (swarfref49_Position.j1 kj4 a2 a3 true a0_0 a0_1 a0_2 a1_0 a1_1 a1_2) else ((swarfref49_far.f a0_2).bind fun t301 => (if t301 = true then (swarfref49_Position.j1 kj4 a2 a3 true a0_0 a0_1 a0_2 a1_0 a1_1 a1_2) else ((swarfref49_far.f a1_0).bind fun t302 => (if t302 = true then (swarfref49_Position.j1 kj4 a2 a3 true a0_0 a0_1 a0_2 a1_0 a1_1 a1_2) else ((swarfref49_far.f a1_1).bind fun t303 => (if t303 = true then (swarfref49_Position.j1 kj4 a2 a3 true a0_0 a0_1 a0_2 a1_0 a1_1 a1_2) else ((swarfref49_far.f a1_2).bind fun t304 => (swarfref49_Position.j1 kj4 a2 a3 t304 a0_0 a0_1 a0_2 a1_0 a1_1 a1_2))))))))))) = some (r1, r2, r3, r4) := H
      have A18 := Aside0.mk A180
      clear A180
      by_cases c19 : t299 = true
      ·subst c19
       have H1 : (swarfref49_Position.j1 kj4 a2 a3 true a0_0 a0_1 a0_2 a1_0 a1_1 a1_2) = some (r1, r2, r3, r4) := by rw [if_pos rfl] at H; exact H
       clear H
       have H := H1
       clear H1
       have H' := Aside0.mk H
       clear H
       go_wp2_with (first | ((with_reducible refine gate_callee (f := 40) rfl ?_); refine goesL_ (some 23) rfl rfl Try.func40 (by kernel_rfl) rfl #[.int .i64 a3] rfl (by (try simp only [List.map_toArray, List.map_cons, List.map_nil]); first | done | rfl | (simp only [List.length_drop, List.length_take]; rfl)) ?_; (with_reducible refine (swarfref49_far.calls a3 false _ A16.out).mono ?_); rintro e w' ⟨rfl, ⟨nd, rfl⟩⟩; refine ⟨_, rfl, ?_⟩; have hnb20 := NB295_296.out; have hnc20 := NB296_295.out; have hnb21 := NB295_297.out; have hnc21 := NB297_295.out; have hcz22_0 : wc.cell? ⟨gb295, 0, none⟩ = some (.int .i64 a0_0) := (blk_cell BK295.out 0).trans rfl; have hcz22_1 : wc.cell? ⟨gb295, 1, none⟩ = some (.int .i64 a0_1) := (blk_cell BK295.out 1).trans rfl; have hcz22_2 : wc.cell? ⟨gb295, 2, none⟩ = some (.int .i64 a0_2) := (blk_cell BK295.out 2).trans rfl; have hfz22_0 := blk_frozen BK295.out 0; have hfz22_1 := blk_frozen BK295.out 1; have hfz22_2 := blk_frozen BK295.out 2) | (go_at_call 40; (with_reducible refine (swarfref49_far.calls a0_0 true _ A18.out).mono ?_); rintro e w' ⟨rfl, ⟨nd, rfl⟩⟩))
       go_meet
       case rel => exact ⟨_, (true), (by first | rfl | (simp; done) | (simp [*]; done)), H', ⟨by have := HJ4.out; first | omega | exact Nat.le_refl _⟩, ⟨by (with_reducible repeat (first | refine blk_drewN ?_ _ | refine blk_drew ?_ | refine blk_alloc ?_ _)); exact BK295.out⟩, ⟨by (with_reducible repeat (first | refine blk_drewN ?_ _ | refine blk_drew ?_ | refine blk_alloc ?_ _)); exact BK296.out⟩, ⟨by (with_reducible repeat (first | refine blk_drewN ?_ _ | refine blk_drew ?_ | refine blk_alloc ?_ _)); exact BK297.out⟩, ⟨by repeat (first | (with_reducible first | exact HB.out | apply below_alloc | apply pw_below_drewN | apply below_drew1 | refine below_set ?_ GE295.out | refine below_set ?_ GE296.out | refine below_set ?_ GE297.out) | exact HB.out)⟩⟩
      ·replace c19 := Bool.eq_false_iff.mpr c19
       subst c19
       have H1 : ((swarfref49_far.f a0_1).bind fun t300 => (if t300 = true then (swarfref49_Position.j1 kj4 a2 a3 true a0_0 a0_1 a0_2 a1_0 a1_1 a1_2) else ((swarfref49_far.f a0_2).bind fun t301 => (if t301 = true then (swarfref49_Position.j1 kj4 a2 a3 true a0_0 a0_1 a0_2 a1_0 a1_1 a1_2) else ((swarfref49_far.f a1_0).bind fun t302 => (if t302 = true then (swarfref49_Position.j1 kj4 a2 a3 true a0_0 a0_1 a0_2 a1_0 a1_1 a1_2) else ((swarfref49_far.f a1_1).bind fun t303 => (if t303 = true then (swarfref49_Position.j1 kj4 a2 a3 true a0_0 a0_1 a0_2 a1_0 a1_1 a1_2) else ((swarfref49_far.f a1_2).bind fun t304 => (swarfref49_Position.j1 kj4 a2 a3 t304 a0_0 a0_1 a0_2 a1_0 a1_1 a1_2)))))))))) = some (r1, r2, r3, r4) := by rw [if_neg (show ¬ (false = true) by decide)] at H; exact H
       clear H
       have H := H1
       clear H1
       replace H := Option.bind_eq_some_iff.mp H
       obtain ⟨t300, A230, H⟩ := H
       replace H : (if t300 = true then (swarfref49_Position.j1 kj4 a2 a3 true a0_0 a0_1 a0_2 a1_0 a1_1 a1_2) else ((swarfref49_far.f a0_2).bind fun t301 => (if t301 = true then (swarfref49_Position.j1 kj4 a2 a3 true a0_0 a0_1 a0_2 a1_0 a1_1 a1_2) else ((swarfref49_far.f a1_0).bind fun t302 => (if t302 = true then (swarfref49_Position.j1 kj4 a2 a3 true a0_0 a0_1 a0_2 a1_0 a1_1 a1_2) else ((swarfref49_far.f a1_1).bind fun t303 => (if t303 = true then (swarfref49_Position.j1 kj4 a2 a3 true a0_0 a0_1 a0_2 a1_0 a1_1 a1_2) else ((swarfref49_far.f a1_2).bind fun t304 => (swarfref49_Position.j1 kj4 a2 a3 t304 a0_0 a0_1 a0_2 a1_0 a1_1 a1_2))))))))) = some (r1, r2, r3, r4) := H
       have A23 := Aside0.mk A230
       clear A230
       by_cases c24 : t300 = true
       ·subst c24
        have H1 : (swarfref49_Position.j1 kj4 a2 a3 true a0_0 a0_1 a0_2 a1_0 a1_1 a1_2) = some (r1, r2, r3, r4) := by rw [if_pos rfl] at H; exact H
        clear H
        have H := H1
        clear H1
        have H' := Aside0.mk H
        clear H
        go_wp2_with (first | ((with_reducible refine gate_callee (f := 40) rfl ?_); refine goesL_ (some 23) rfl rfl Try.func40 (by kernel_rfl) rfl #[.int .i64 a3] rfl (by (try simp only [List.map_toArray, List.map_cons, List.map_nil]); first | done | rfl | (simp only [List.length_drop, List.length_take]; rfl)) ?_; (with_reducible refine (swarfref49_far.calls a3 false _ A16.out).mono ?_); rintro e w' ⟨rfl, ⟨nd, rfl⟩⟩; refine ⟨_, rfl, ?_⟩; have hnb25 := NB295_296.out; have hnc25 := NB296_295.out; have hnb26 := NB295_297.out; have hnc26 := NB297_295.out; have hcz27_0 : wc.cell? ⟨gb295, 0, none⟩ = some (.int .i64 a0_0) := (blk_cell BK295.out 0).trans rfl; have hcz27_1 : wc.cell? ⟨gb295, 1, none⟩ = some (.int .i64 a0_1) := (blk_cell BK295.out 1).trans rfl; have hcz27_2 : wc.cell? ⟨gb295, 2, none⟩ = some (.int .i64 a0_2) := (blk_cell BK295.out 2).trans rfl; have hfz27_0 := blk_frozen BK295.out 0; have hfz27_1 := blk_frozen BK295.out 1; have hfz27_2 := blk_frozen BK295.out 2) | (go_at_call 40; (with_reducible refine (swarfref49_far.calls a0_0 false _ A18.out).mono ?_); rintro e w' ⟨rfl, ⟨nd, rfl⟩⟩) | (go_at_call 40; (with_reducible refine (swarfref49_far.calls a0_1 true _ A23.out).mono ?_); rintro e w' ⟨rfl, ⟨nd, rfl⟩⟩))
        go_meet
        case rel => exact ⟨_, (true), (by first | rfl | (simp; done) | (simp [*]; done)), H', ⟨by have := HJ4.out; first | omega | exact Nat.le_refl _⟩, ⟨by (with_reducible repeat (first | refine blk_drewN ?_ _ | refine blk_drew ?_ | refine blk_alloc ?_ _)); exact BK295.out⟩, ⟨by (with_reducible repeat (first | refine blk_drewN ?_ _ | refine blk_drew ?_ | refine blk_alloc ?_ _)); exact BK296.out⟩, ⟨by (with_reducible repeat (first | refine blk_drewN ?_ _ | refine blk_drew ?_ | refine blk_alloc ?_ _)); exact BK297.out⟩, ⟨by repeat (first | (with_reducible first | exact HB.out | apply below_alloc | apply pw_below_drewN | apply below_drew1 | refine below_set ?_ GE295.out | refine below_set ?_ GE296.out | refine below_set ?_ GE297.out) | exact HB.out)⟩⟩
       ·replace c24 := Bool.eq_false_iff.mpr c24
        subst c24
        have H1 : ((swarfref49_far.f a0_2).bind fun t301 => (if t301 = true then (swarfref49_Position.j1 kj4 a2 a3 true a0_0 a0_1 a0_2 a1_0 a1_1 a1_2) else ((swarfref49_far.f a1_0).bind fun t302 => (if t302 = true then (swarfref49_Position.j1 kj4 a2 a3 true a0_0 a0_1 a0_2 a1_0 a1_1 a1_2) else ((swarfref49_far.f a1_1).bind fun t303 => (if t303 = true then (swarfref49_Position.j1 kj4 a2 a3 true a0_0 a0_1 a0_2 a1_0 a1_1 a1_2) else ((swarfref49_far.f a1_2).bind fun t304 => (swarfref49_Position.j1 kj4 a2 a3 t304 a0_0 a0_1 a0_2 a1_0 a1_1 a1_2)))))))) = some (r1, r2, r3, r4) := by rw [if_neg (show ¬ (false = true) by decide)] at H; exact H
        clear H
        have H := H1
        clear H1
        replace H := Option.bind_eq_some_iff.mp H
        obtain ⟨t301, A280, H⟩ := H
        replace H : (if t301 = true then (swarfref49_Position.j1 kj4 a2 a3 true a0_0 a0_1 a0_2 a1_0 a1_1 a1_2) else ((swarfref49_far.f a1_0).bind fun t302 => (if t302 = true then (swarfref49_Position.j1 kj4 a2 a3 true a0_0 a0_1 a0_2 a1_0 a1_1 a1_2) else ((swarfref49_far.f a1_1).bind fun t303 => (if t303 = true then (swarfref49_Position.j1 kj4 a2 a3 true a0_0 a0_1 a0_2 a1_0 a1_1 a1_2) else ((swarfref49_far.f a1_2).bind fun t304 => (swarfref49_Position.j1 kj4 a2 a3 t304 a0_0 a0_1 a0_2 a1_0 a1_1 a1_2))))))) = some (r1, r2, r3, r4) := H
        have A28 := Aside0.mk A280
        clear A280
        by_cases c29 : t301 = true
        ·subst c29
         have H1 : (swarfref49_Position.j1 kj4 a2 a3 true a0_0 a0_1 a0_2 a1_0 a1_1 a1_2) = some (r1, r2, r3, r4) := by rw [if_pos rfl] at H; exact H
         clear H
         have H := H1
         clear H1
         have H' := Aside0.mk H
         clear H
         go_wp2_with (first | ((with_reducible refine gate_callee (f := 40) rfl ?_); refine goesL_ (some 23) rfl rfl Try.func40 (by kernel_rfl) rfl #[.int .i64 a3] rfl (by (try simp only [List.map_toArray, List.map_cons, List.map_nil]); first | done | rfl | (simp only [List.length_drop, List.length_take]; rfl)) ?_; (with_reducible refine (swarfref49_far.calls a3 false _ A16.out).mono ?_); rintro e w' ⟨rfl, ⟨nd, rfl⟩⟩; refine ⟨_, rfl, ?_⟩; have hnb30 := NB295_296.out; have hnc30 := NB296_295.out; have hnb31 := NB295_297.out; have hnc31 := NB297_295.out; have hcz32_0 : wc.cell? ⟨gb295, 0, none⟩ = some (.int .i64 a0_0) := (blk_cell BK295.out 0).trans rfl; have hcz32_1 : wc.cell? ⟨gb295, 1, none⟩ = some (.int .i64 a0_1) := (blk_cell BK295.out 1).trans rfl; have hcz32_2 : wc.cell? ⟨gb295, 2, none⟩ = some (.int .i64 a0_2) := (blk_cell BK295.out 2).trans rfl; have hfz32_0 := blk_frozen BK295.out 0; have hfz32_1 := blk_frozen BK295.out 1; have hfz32_2 := blk_frozen BK295.out 2) | (go_at_call 40; (with_reducible refine (swarfref49_far.calls a0_0 false _ A18.out).mono ?_); rintro e w' ⟨rfl, ⟨nd, rfl⟩⟩) | (go_at_call 40; (with_reducible refine (swarfref49_far.calls a0_1 false _ A23.out).mono ?_); rintro e w' ⟨rfl, ⟨nd, rfl⟩⟩) | (go_at_call 40; (with_reducible refine (swarfref49_far.calls a0_2 true _ A28.out).mono ?_); rintro e w' ⟨rfl, ⟨nd, rfl⟩⟩))
         go_meet
         case rel => exact ⟨_, (true), (by first | rfl | (simp; done) | (simp [*]; done)), H', ⟨by have := HJ4.out; first | omega | exact Nat.le_refl _⟩, ⟨by (with_reducible repeat (first | refine blk_drewN ?_ _ | refine blk_drew ?_ | refine blk_alloc ?_ _)); exact BK295.out⟩, ⟨by (with_reducible repeat (first | refine blk_drewN ?_ _ | refine blk_drew ?_ | refine blk_alloc ?_ _)); exact BK296.out⟩, ⟨by (with_reducible repeat (first | refine blk_drewN ?_ _ | refine blk_drew ?_ | refine blk_alloc ?_ _)); exact BK297.out⟩, ⟨by repeat (first | (with_reducible first | exact HB.out | apply below_alloc | apply pw_below_drewN | apply below_drew1 | refine below_set ?_ GE295.out | refine below_set ?_ GE296.out | refine below_set ?_ GE297.out) | exact HB.out)⟩⟩
        ·replace c29 := Bool.eq_false_iff.mpr c29
         subst c29
         have H1 : ((swarfref49_far.f a1_0).bind fun t302 => (if t302 = true then (swarfref49_Position.j1 kj4 a2 a3 true a0_0 a0_1 a0_2 a1_0 a1_1 a1_2) else ((swarfref49_far.f a1_1).bind fun t303 => (if t303 = true then (swarfref49_Position.j1 kj4 a2 a3 true a0_0 a0_1 a0_2 a1_0 a1_1 a1_2) else ((swarfref49_far.f a1_2).bind fun t304 => (swarfref49_Position.j1 kj4 a2 a3 t304 a0_0 a0_1 a0_2 a1_0 a1_1 a1_2)))))) = some (r1, r2, r3, r4) := by rw [if_neg (show ¬ (false = true) by decide)] at H; exact H
         clear H
         have H := H1
         clear H1
         replace H := Option.bind_eq_some_iff.mp H
         obtain ⟨t302, A330, H⟩ := H
         replace H : (if t302 = true then (swarfref49_Position.j1 kj4 a2 a3 true a0_0 a0_1 a0_2 a1_0 a1_1 a1_2) else ((swarfref49_far.f a1_1).bind fun t303 => (if t303 = true then (swarfref49_Position.j1 kj4 a2 a3 true a0_0 a0_1 a0_2 a1_0 a1_1 a1_2) else ((swarfref49_far.f a1_2).bind fun t304 => (swarfref49_Position.j1 kj4 a2 a3 t304 a0_0 a0_1 a0_2 a1_0 a1_1 a1_2))))) = some (r1, r2, r3, r4) := H
         have A33 := Aside0.mk A330
         clear A330
         by_cases c34 : t302 = true
         ·subst c34
          have H1 : (swarfref49_Position.j1 kj4 a2 a3 true a0_0 a0_1 a0_2 a1_0 a1_1 a1_2) = some (r1, r2, r3, r4) := by rw [if_pos rfl] at H; exact H
          clear H
          have H := H1
          clear H1
          have H' := Aside0.mk H
          clear H
          go_wp2_with (first | ((with_reducible refine gate_callee (f := 40) rfl ?_); refine goesL_ (some 23) rfl rfl Try.func40 (by kernel_rfl) rfl #[.int .i64 a3] rfl (by (try simp only [List.map_toArray, List.map_cons, List.map_nil]); first | done | rfl | (simp only [List.length_drop, List.length_take]; rfl)) ?_; (with_reducible refine (swarfref49_far.calls a3 false _ A16.out).mono ?_); rintro e w' ⟨rfl, ⟨nd, rfl⟩⟩; refine ⟨_, rfl, ?_⟩; have hnb35 := NB295_296.out; have hnc35 := NB296_295.out; have hnb36 := NB295_297.out; have hnc36 := NB297_295.out; have hcz37_0 : wc.cell? ⟨gb295, 0, none⟩ = some (.int .i64 a0_0) := (blk_cell BK295.out 0).trans rfl; have hcz37_1 : wc.cell? ⟨gb295, 1, none⟩ = some (.int .i64 a0_1) := (blk_cell BK295.out 1).trans rfl; have hcz37_2 : wc.cell? ⟨gb295, 2, none⟩ = some (.int .i64 a0_2) := (blk_cell BK295.out 2).trans rfl; have hfz37_0 := blk_frozen BK295.out 0; have hfz37_1 := blk_frozen BK295.out 1; have hfz37_2 := blk_frozen BK295.out 2) | (go_at_call 40; (with_reducible refine (swarfref49_far.calls a0_0 false _ A18.out).mono ?_); rintro e w' ⟨rfl, ⟨nd, rfl⟩⟩) | (go_at_call 40; (with_reducible refine (swarfref49_far.calls a0_1 false _ A23.out).mono ?_); rintro e w' ⟨rfl, ⟨nd, rfl⟩⟩) | (go_at_call 40; (with_reducible refine (swarfref49_far.calls a0_2 false _ A28.out).mono ?_); rintro e w' ⟨rfl, ⟨nd, rfl⟩⟩; have hnb38 := NB296_297.out; have hnc38 := NB297_296.out; have hcz39_0 : wc.cell? ⟨gb296, 0, none⟩ = some (.int .i64 a1_0) := (blk_cell BK296.out 0).trans rfl; have hcz39_1 : wc.cell? ⟨gb296, 1, none⟩ = some (.int .i64 a1_1) := (blk_cell BK296.out 1).trans rfl; have hcz39_2 : wc.cell? ⟨gb296, 2, none⟩ = some (.int .i64 a1_2) := (blk_cell BK296.out 2).trans rfl; have hfz39_0 := blk_frozen BK296.out 0; have hfz39_1 := blk_frozen BK296.out 1; have hfz39_2 := blk_frozen BK296.out 2) | (go_at_call 40; (with_reducible refine (swarfref49_far.calls a1_0 true _ A33.out).mono ?_); rintro e w' ⟨rfl, ⟨nd, rfl⟩⟩))
          go_meet
          case rel => exact ⟨_, (true), (by first | rfl | (simp; done) | (simp [*]; done)), H', ⟨by have := HJ4.out; first | omega | exact Nat.le_refl _⟩, ⟨by (with_reducible repeat (first | refine blk_drewN ?_ _ | refine blk_drew ?_ | refine blk_alloc ?_ _)); exact BK295.out⟩, ⟨by (with_reducible repeat (first | refine blk_drewN ?_ _ | refine blk_drew ?_ | refine blk_alloc ?_ _)); exact BK296.out⟩, ⟨by (with_reducible repeat (first | refine blk_drewN ?_ _ | refine blk_drew ?_ | refine blk_alloc ?_ _)); exact BK297.out⟩, ⟨by repeat (first | (with_reducible first | exact HB.out | apply below_alloc | apply pw_below_drewN | apply below_drew1 | refine below_set ?_ GE295.out | refine below_set ?_ GE296.out | refine below_set ?_ GE297.out) | exact HB.out)⟩⟩
         ·replace c34 := Bool.eq_false_iff.mpr c34
          subst c34
          have H1 : ((swarfref49_far.f a1_1).bind fun t303 => (if t303 = true then (swarfref49_Position.j1 kj4 a2 a3 true a0_0 a0_1 a0_2 a1_0 a1_1 a1_2) else ((swarfref49_far.f a1_2).bind fun t304 => (swarfref49_Position.j1 kj4 a2 a3 t304 a0_0 a0_1 a0_2 a1_0 a1_1 a1_2)))) = some (r1, r2, r3, r4) := by rw [if_neg (show ¬ (false = true) by decide)] at H; exact H
          clear H
          have H := H1
          clear H1
          replace H := Option.bind_eq_some_iff.mp H
          obtain ⟨t303, A400, H⟩ := H
          replace H : (if t303 = true then (swarfref49_Position.j1 kj4 a2 a3 true a0_0 a0_1 a0_2 a1_0 a1_1 a1_2) else ((swarfref49_far.f a1_2).bind fun t304 => (swarfref49_Position.j1 kj4 a2 a3 t304 a0_0 a0_1 a0_2 a1_0 a1_1 a1_2))) = some (r1, r2, r3, r4) := H
          have A40 := Aside0.mk A400
          clear A400
          by_cases c41 : t303 = true
          ·subst c41
           have H1 : (swarfref49_Position.j1 kj4 a2 a3 true a0_0 a0_1 a0_2 a1_0 a1_1 a1_2) = some (r1, r2, r3, r4) := by rw [if_pos rfl] at H; exact H
           clear H
           have H := H1
           clear H1
           have H' := Aside0.mk H
           clear H
           go_wp2_with (first | ((with_reducible refine gate_callee (f := 40) rfl ?_); refine goesL_ (some 23) rfl rfl Try.func40 (by kernel_rfl) rfl #[.int .i64 a3] rfl (by (try simp only [List.map_toArray, List.map_cons, List.map_nil]); first | done | rfl | (simp only [List.length_drop, List.length_take]; rfl)) ?_; (with_reducible refine (swarfref49_far.calls a3 false _ A16.out).mono ?_); rintro e w' ⟨rfl, ⟨nd, rfl⟩⟩; refine ⟨_, rfl, ?_⟩; have hnb42 := NB295_296.out; have hnc42 := NB296_295.out; have hnb43 := NB295_297.out; have hnc43 := NB297_295.out; have hcz44_0 : wc.cell? ⟨gb295, 0, none⟩ = some (.int .i64 a0_0) := (blk_cell BK295.out 0).trans rfl; have hcz44_1 : wc.cell? ⟨gb295, 1, none⟩ = some (.int .i64 a0_1) := (blk_cell BK295.out 1).trans rfl; have hcz44_2 : wc.cell? ⟨gb295, 2, none⟩ = some (.int .i64 a0_2) := (blk_cell BK295.out 2).trans rfl; have hfz44_0 := blk_frozen BK295.out 0; have hfz44_1 := blk_frozen BK295.out 1; have hfz44_2 := blk_frozen BK295.out 2) | (go_at_call 40; (with_reducible refine (swarfref49_far.calls a0_0 false _ A18.out).mono ?_); rintro e w' ⟨rfl, ⟨nd, rfl⟩⟩) | (go_at_call 40; (with_reducible refine (swarfref49_far.calls a0_1 false _ A23.out).mono ?_); rintro e w' ⟨rfl, ⟨nd, rfl⟩⟩) | (go_at_call 40; (with_reducible refine (swarfref49_far.calls a0_2 false _ A28.out).mono ?_); rintro e w' ⟨rfl, ⟨nd, rfl⟩⟩; have hnb45 := NB296_297.out; have hnc45 := NB297_296.out; have hcz46_0 : wc.cell? ⟨gb296, 0, none⟩ = some (.int .i64 a1_0) := (blk_cell BK296.out 0).trans rfl; have hcz46_1 : wc.cell? ⟨gb296, 1, none⟩ = some (.int .i64 a1_1) := (blk_cell BK296.out 1).trans rfl; have hcz46_2 : wc.cell? ⟨gb296, 2, none⟩ = some (.int .i64 a1_2) := (blk_cell BK296.out 2).trans rfl; have hfz46_0 := blk_frozen BK296.out 0; have hfz46_1 := blk_frozen BK296.out 1; have hfz46_2 := blk_frozen BK296.out 2) | (go_at_call 40; (with_reducible refine (swarfref49_far.calls a1_0 false _ A33.out).mono ?_); rintro e w' ⟨rfl, ⟨nd, rfl⟩⟩) | (go_at_call 40; (with_reducible refine (swarfref49_far.calls a1_1 true _ A40.out).mono ?_); rintro e w' ⟨rfl, ⟨nd, rfl⟩⟩))
           go_meet
           case rel => exact ⟨_, (true), (by first | rfl | (simp; done) | (simp [*]; done)), H', ⟨by have := HJ4.out; first | omega | exact Nat.le_refl _⟩, ⟨by (with_reducible repeat (first | refine blk_drewN ?_ _ | refine blk_drew ?_ | refine blk_alloc ?_ _)); exact BK295.out⟩, ⟨by (with_reducible repeat (first | refine blk_drewN ?_ _ | refine blk_drew ?_ | refine blk_alloc ?_ _)); exact BK296.out⟩, ⟨by (with_reducible repeat (first | refine blk_drewN ?_ _ | refine blk_drew ?_ | refine blk_alloc ?_ _)); exact BK297.out⟩, ⟨by repeat (first | (with_reducible first | exact HB.out | apply below_alloc | apply pw_below_drewN | apply below_drew1 | refine below_set ?_ GE295.out | refine below_set ?_ GE296.out | refine below_set ?_ GE297.out) | exact HB.out)⟩⟩
          ·replace c41 := Bool.eq_false_iff.mpr c41
           subst c41
           have H1 : ((swarfref49_far.f a1_2).bind fun t304 => (swarfref49_Position.j1 kj4 a2 a3 t304 a0_0 a0_1 a0_2 a1_0 a1_1 a1_2)) = some (r1, r2, r3, r4) := by rw [if_neg (show ¬ (false = true) by decide)] at H; exact H
           clear H
           have H := H1
           clear H1
           replace H := Option.bind_eq_some_iff.mp H
           obtain ⟨t304, A470, H⟩ := H
           replace H : (swarfref49_Position.j1 kj4 a2 a3 t304 a0_0 a0_1 a0_2 a1_0 a1_1 a1_2) = some (r1, r2, r3, r4) := H
           have A47 := Aside0.mk A470
           clear A470
           have H' := Aside0.mk H
           clear H
           go_wp2_with (first | ((with_reducible refine gate_callee (f := 40) rfl ?_); refine goesL_ (some 23) rfl rfl Try.func40 (by kernel_rfl) rfl #[.int .i64 a3] rfl (by (try simp only [List.map_toArray, List.map_cons, List.map_nil]); first | done | rfl | (simp only [List.length_drop, List.length_take]; rfl)) ?_; (with_reducible refine (swarfref49_far.calls a3 false _ A16.out).mono ?_); rintro e w' ⟨rfl, ⟨nd, rfl⟩⟩; refine ⟨_, rfl, ?_⟩; have hnb48 := NB295_296.out; have hnc48 := NB296_295.out; have hnb49 := NB295_297.out; have hnc49 := NB297_295.out; have hcz50_0 : wc.cell? ⟨gb295, 0, none⟩ = some (.int .i64 a0_0) := (blk_cell BK295.out 0).trans rfl; have hcz50_1 : wc.cell? ⟨gb295, 1, none⟩ = some (.int .i64 a0_1) := (blk_cell BK295.out 1).trans rfl; have hcz50_2 : wc.cell? ⟨gb295, 2, none⟩ = some (.int .i64 a0_2) := (blk_cell BK295.out 2).trans rfl; have hfz50_0 := blk_frozen BK295.out 0; have hfz50_1 := blk_frozen BK295.out 1; have hfz50_2 := blk_frozen BK295.out 2) | (go_at_call 40; (with_reducible refine (swarfref49_far.calls a0_0 false _ A18.out).mono ?_); rintro e w' ⟨rfl, ⟨nd, rfl⟩⟩) | (go_at_call 40; (with_reducible refine (swarfref49_far.calls a0_1 false _ A23.out).mono ?_); rintro e w' ⟨rfl, ⟨nd, rfl⟩⟩) | (go_at_call 40; (with_reducible refine (swarfref49_far.calls a0_2 false _ A28.out).mono ?_); rintro e w' ⟨rfl, ⟨nd, rfl⟩⟩; have hnb51 := NB296_297.out; have hnc51 := NB297_296.out; have hcz52_0 : wc.cell? ⟨gb296, 0, none⟩ = some (.int .i64 a1_0) := (blk_cell BK296.out 0).trans rfl; have hcz52_1 : wc.cell? ⟨gb296, 1, none⟩ = some (.int .i64 a1_1) := (blk_cell BK296.out 1).trans rfl; have hcz52_2 : wc.cell? ⟨gb296, 2, none⟩ = some (.int .i64 a1_2) := (blk_cell BK296.out 2).trans rfl; have hfz52_0 := blk_frozen BK296.out 0; have hfz52_1 := blk_frozen BK296.out 1; have hfz52_2 := blk_frozen BK296.out 2) | (go_at_call 40; (with_reducible refine (swarfref49_far.calls a1_0 false _ A33.out).mono ?_); rintro e w' ⟨rfl, ⟨nd, rfl⟩⟩) | (go_at_call 40; (with_reducible refine (swarfref49_far.calls a1_1 false _ A40.out).mono ?_); rintro e w' ⟨rfl, ⟨nd, rfl⟩⟩) | (go_at_call 40; (with_reducible refine (swarfref49_far.calls a1_2 t304 _ A47.out).mono ?_); rintro e w' ⟨rfl, ⟨nd, rfl⟩⟩))
           go_meet
           case rel => exact ⟨_, (t304), (by first | rfl | (simp; done) | (simp [*]; done)), H', ⟨by have := HJ4.out; first | omega | exact Nat.le_refl _⟩, ⟨by (with_reducible repeat (first | refine blk_drewN ?_ _ | refine blk_drew ?_ | refine blk_alloc ?_ _)); exact BK295.out⟩, ⟨by (with_reducible repeat (first | refine blk_drewN ?_ _ | refine blk_drew ?_ | refine blk_alloc ?_ _)); exact BK296.out⟩, ⟨by (with_reducible repeat (first | refine blk_drewN ?_ _ | refine blk_drew ?_ | refine blk_alloc ?_ _)); exact BK297.out⟩, ⟨by repeat (first | (with_reducible first | exact HB.out | apply below_alloc | apply pw_below_drewN | apply below_drew1 | refine below_set ?_ GE295.out | refine below_set ?_ GE296.out | refine below_set ?_ GE297.out) | exact HB.out)⟩⟩
    case rest =>
     clear HC15
     try clear c1
     try clear c2
     try clear p2
     try clear c3
     try clear c4
     try clear c5
     try clear c9
     try clear c9b0
     try clear c10
     try clear c10b0
     try clear c11
     try clear c12
     try clear c13
     try clear c17
     try clear c19
     try clear c20
     try clear c21
     try clear c24
     try clear c25
     try clear c26
     try clear c27
     try clear c29
     try clear c30
     try clear c31
     try clear c34
     try clear c35
     try clear c36
     try clear c38
     try clear c40
     try clear c41
     try clear c42
     try clear c43
     try clear c45
     try clear c48
     try clear c49
     try clear c51
     try clear hcz14_0
     try clear hcz14_1
     try clear hcz14_2
     try clear hcz22_0
     try clear hcz22_1
     try clear hcz22_2
     try clear hcz27_0
     try clear hcz27_1
     try clear hcz27_2
     try clear hcz32_0
     try clear hcz32_1
     try clear hcz32_2
     try clear hcz37_0
     try clear hcz37_1
     try clear hcz37_2
     try clear hcz39_0
     try clear hcz39_1
     try clear hcz39_2
     try clear hcz44_0
     try clear hcz44_1
     try clear hcz44_2
     try clear hcz46_0
     try clear hcz46_1
     try clear hcz46_2
     try clear hcz50_0
     try clear hcz50_1
     try clear hcz50_2
     try clear hcz52_0
     try clear hcz52_1
     try clear hcz52_2
     try clear hfz14_0
     try clear hfz14_1
     try clear hfz14_2
     try clear hfz22_0
     try clear hfz22_1
     try clear hfz22_2
     try clear hfz27_0
     try clear hfz27_1
     try clear hfz27_2
     try clear hfz32_0
     try clear hfz32_1
     try clear hfz32_2
     try clear hfz37_0
     try clear hfz37_1
     try clear hfz37_2
     try clear hfz39_0
     try clear hfz39_1
     try clear hfz39_2
     try clear hfz44_0
     try clear hfz44_1
     try clear hfz44_2
     try clear hfz46_0
     try clear hfz46_1
     try clear hfz46_2
     try clear hfz50_0
     try clear hfz50_1
     try clear hfz50_2
     try clear hfz52_0
     try clear hfz52_1
     try clear hfz52_2
     try clear p2
     obtain ⟨kq, x53_14, rfl, HA, HJ14, BK295, BK296, BK297, HB⟩ := hcut
     cases kq with
     | zero => exact absurd HA.out (by simp [swarfref49_Position.j1])
     | succ kj14 =>
      have H := HA.out
      clear HA
      simp only [swarfref49_Position.j1] at H
      by_cases c53 : x53_14 = true
      ·subst c53
       have H1 : (some (0, 0, 0, 11)) = some (r1, r2, r3, r4) := by rw [if_pos rfl] at H; exact H
       clear H
       have H := H1
       clear H1
       simp only [Option.some.injEq, Prod.mk.injEq] at H
       obtain ⟨rfl, rfl, rfl, rfl⟩ := H
       have hnb54 := NB297_295.out
       have hnc54 := NB295_297.out
       have hnb55 := NB297_296.out
       have hnc55 := NB296_297.out
       have hcz56_0 : wc.cell? ⟨gb297, 0, none⟩ = some (.int .i64 0) := (blk_cell BK297.out 0).trans rfl
       have hcz56_1 : wc.cell? ⟨gb297, 1, none⟩ = some (.int .i64 0) := (blk_cell BK297.out 1).trans rfl
       have hcz56_2 : wc.cell? ⟨gb297, 2, none⟩ = some (.int .i64 0) := (blk_cell BK297.out 2).trans rfl
       have hfz56_0 := blk_frozen BK297.out 0
       have hfz56_1 := blk_frozen BK297.out 1
       have hfz56_2 := blk_frozen BK297.out 2
       go_wp2
       refine bodyPost_ret (results_ct rfl _ _ gb297 47 #[.int .i64 0, .int .i64 0, .int .i64 0] (0, 0) _ rfl (by (with_reducible repeat (first | refine blk_drewN ?_ _ | refine blk_drew ?_ | refine blk_alloc ?_ _)); refine blk_put (cs := #[.int .i64 0, .int .i64 0, .int .i64 0]) ?_ 2 _ rfl; (with_reducible repeat (first | refine blk_drewN ?_ _ | refine blk_drew ?_ | refine blk_alloc ?_ _)); refine blk_put (cs := #[.int .i64 0, .int .i64 0, .int .i64 0]) ?_ 1 _ rfl; (with_reducible repeat (first | refine blk_drewN ?_ _ | refine blk_drew ?_ | refine blk_alloc ?_ _)); refine blk_put (cs := #[.int .i64 0, .int .i64 0, .int .i64 0]) ?_ 0 _ rfl; (with_reducible repeat (first | refine blk_drewN ?_ _ | refine blk_drew ?_ | refine blk_alloc ?_ _)); exact BK297.out) Try.underlying47 rfl (by kernel_rfl)) rfl ?_
       exact ⟨by first | rfl | (simp [errW_none, errW_some] <;> rfl) | (simp [*, errW_none, errW_some] <;> rfl), by repeat (first | (with_reducible first | exact HB.out | apply below_alloc | apply pw_below_drewN | apply below_drew1 | refine below_set ?_ GE295.out | refine below_set ?_ GE296.out | refine below_set ?_ GE297.out) | exact HB.out)⟩
      ·replace c53 := Bool.eq_false_iff.mpr c53
       subst c53
       have H1 : ((swarfref49_between.f a0_0 a1_0 a2 a3).bind fun t305 => ((swarfref49_between.f a0_1 a1_1 a2 a3).bind fun t306 => ((swarfref49_between.f a0_2 a1_2 a2 a3).bind fun t307 => (some (t305, t306, t307, 0))))) = some (r1, r2, r3, r4) := by rw [if_neg (show ¬ (false = true) by decide)] at H; exact H
       clear H
       have H := H1
       clear H1
       replace H := Option.bind_eq_some_iff.mp H
       obtain ⟨t305, A570, H⟩ := H
       replace H : ((swarfref49_between.f a0_1 a1_1 a2 a3).bind fun t306 => ((swarfref49_between.f a0_2 a1_2 a2 a3).bind fun t307 => (some (t305, t306, t307, 0)))) = some (r1, r2, r3, r4) := H
       have A57 := Aside0.mk A570
       clear A570
       replace H := Option.bind_eq_some_iff.mp H
       obtain ⟨t306, A580, H⟩ := H
       replace H : ((swarfref49_between.f a0_2 a1_2 a2 a3).bind fun t307 => (some (t305, t306, t307, 0))) = some (r1, r2, r3, r4) := H
       have A58 := Aside0.mk A580
       clear A580
       replace H := Option.bind_eq_some_iff.mp H
       obtain ⟨t307, A590, H⟩ := H
       replace H : (some (t305, t306, t307, 0)) = some (r1, r2, r3, r4) := H
       have A59 := Aside0.mk A590
       clear A590
       simp only [Option.some.injEq, Prod.mk.injEq] at H
       obtain ⟨rfl, rfl, rfl, rfl⟩ := H
       try go_wp2
       have n0_ := Aside0.mk (blk_drew BK295.out)
       have n1_ := Aside0.mk (blk_drew BK296.out)
       have n2_ := Aside0.mk (blk_drew BK297.out)
       have n3_ := Aside0.mk (below_drew1 HB.out)
       clear BK295
       clear BK296
       clear BK297
       clear HB
       have BK295 := n0_
       have BK296 := n1_
       have BK297 := n2_
       have HB := n3_
       clear n0_ n1_ n2_ n3_
       refine start_ (n := 24) (S := fun w' => w'.cell? ⟨gb295, 0, none⟩ = some (.int .i64 a0_0) ∧ w'.cell? ⟨gb295, 1, none⟩ = some (.int .i64 a0_1) ∧ w'.cell? ⟨gb295, 2, none⟩ = some (.int .i64 a0_2) ∧ w'.cell? ⟨gb296, 0, none⟩ = some (.int .i64 a1_0) ∧ w'.cell? ⟨gb296, 1, none⟩ = some (.int .i64 a1_1) ∧ w'.cell? ⟨gb296, 2, none⟩ = some (.int .i64 a1_2)) (ds := []) #[false, false, false, false, false, false, false, false, false, false, false, false, false, false, false, false, false, false, false, false, false, false, false, false] (by kernel_rfl) rfl rfl ⟨(blk_cell BK295.out 0).trans rfl, (blk_cell BK295.out 1).trans rfl, (blk_cell BK295.out 2).trans rfl, (blk_cell BK296.out 0).trans rfl, (blk_cell BK296.out 1).trans rfl, (blk_cell BK296.out 2).trans rfl⟩ (fun hHeld => ?_); refine with_tabW swarfref49_Position.tab5 swarfref49_Position.bits5 (fun HT_ HW_ => ?_)
       generalize wc.drew = w60 at BK295 BK296 BK297 HB hHeld ⊢
       refine pure_ (i := 0) (N := some 55) (v := ?_) (a' := ?_) #[true, false, false, false, false, false, false, false, false, false, false, false, false, false, false, false, false, false, false, false, false, false, false, false] rfl rfl (any_of HT_.out (by kernel_rfl)) (fun _ _ _ h => h) (Or.inl ⟨by rfl, ?_⟩) ?_ ?_
       rotate_left
       ·intro w'
        go_simp
        with_reducible rfl
       rotate_left
       ·simp only [Act.put, List.setIfInBounds_toArray, List.set_cons_zero, List.set_cons_succ, i64_w, i32_w]
        rfl
       refine pure_ (i := 2) (N := some 57) (v := ?_) (a' := ?_) #[true, false, true, false, false, false, false, false, false, false, false, false, false, false, false, false, false, false, false, false, false, false, false, false] rfl rfl (any_of HT_.out (by kernel_rfl)) (fun _ _ _ h => h) (Or.inl ⟨by rfl, ?_⟩) ?_ ?_
       rotate_left
       ·intro w'
        go_simp
        with_reducible rfl
       rotate_left
       ·simp only [Act.put, List.setIfInBounds_toArray, List.set_cons_zero, List.set_cons_succ, i64_w, i32_w]
        rfl
       refine pure_ (i := 4) (N := some 59) (v := ?_) (a' := ?_) #[true, false, true, false, true, false, false, false, false, false, false, false, false, false, false, false, false, false, false, false, false, false, false, false] rfl rfl (any_of HT_.out (by kernel_rfl)) (fun _ _ _ h => h) (Or.inl ⟨by rfl, ?_⟩) ?_ ?_
       rotate_left
       ·intro w'
        go_simp
        with_reducible rfl
       rotate_left
       ·simp only [Act.put, List.setIfInBounds_toArray, List.set_cons_zero, List.set_cons_succ, i64_w, i32_w]
        rfl
       refine pure_ (i := 5) (N := some 60) (v := ?_) (a' := ?_) #[true, false, true, false, true, true, false, false, false, false, false, false, false, false, false, false, false, false, false, false, false, false, false, false] rfl rfl (any_of HT_.out (by kernel_rfl)) (fun _ _ _ h => h) (Or.inl ⟨by rfl, ?_⟩) ?_ ?_
       rotate_left
       ·intro w'
        go_simp
        with_reducible rfl
       rotate_left
       ·simp only [Act.put, List.setIfInBounds_toArray, List.set_cons_zero, List.set_cons_succ, i64_w, i32_w]
        rfl
       refine pure_ (i := 7) (N := some 62) (v := ?_) (a' := ?_) #[true, false, true, false, true, true, false, true, false, false, false, false, false, false, false, false, false, false, false, false, false, false, false, false] rfl rfl (any_of HT_.out (by kernel_rfl)) (fun _ _ _ h => h) (Or.inl ⟨by rfl, ?_⟩) ?_ ?_
       rotate_left
       ·intro w'
        go_simp
        with_reducible rfl
       rotate_left
       ·simp only [Act.put, List.setIfInBounds_toArray, List.set_cons_zero, List.set_cons_succ, i64_w, i32_w]
        rfl
       refine pure_ (i := 9) (N := some 64) (v := ?_) (a' := ?_) #[true, false, true, false, true, true, false, true, false, true, false, false, false, false, false, false, false, false, false, false, false, false, false, false] rfl rfl (any_of HT_.out (by kernel_rfl)) (fun _ _ _ h => h) (Or.inl ⟨by rfl, ?_⟩) ?_ ?_
       rotate_left
       ·intro w'
        go_simp
        with_reducible rfl
       rotate_left
       ·simp only [Act.put, List.setIfInBounds_toArray, List.set_cons_zero, List.set_cons_succ, i64_w, i32_w]
        rfl
       refine pure_ (i := 11) (N := some 66) (v := ?_) (a' := ?_) #[true, false, true, false, true, true, false, true, false, true, false, true, false, false, false, false, false, false, false, false, false, false, false, false] rfl rfl (any_of HT_.out (by kernel_rfl)) (fun _ _ _ h => h) (Or.inl ⟨by rfl, ?_⟩) ?_ ?_
       rotate_left
       ·intro w'
        go_simp
        with_reducible rfl
       rotate_left
       ·simp only [Act.put, List.setIfInBounds_toArray, List.set_cons_zero, List.set_cons_succ, i64_w, i32_w]
        rfl
       refine pure_ (i := 12) (N := some 67) (v := ?_) (a' := ?_) #[true, false, true, false, true, true, false, true, false, true, false, true, true, false, false, false, false, false, false, false, false, false, false, false] rfl rfl (any_of HT_.out (by kernel_rfl)) (fun _ _ _ h => h) (Or.inl ⟨by rfl, ?_⟩) ?_ ?_
       rotate_left
       ·intro w'
        go_simp
        with_reducible rfl
       rotate_left
       ·simp only [Act.put, List.setIfInBounds_toArray, List.set_cons_zero, List.set_cons_succ, i64_w, i32_w]
        rfl
       refine pure_ (i := 14) (N := some 69) (v := ?_) (a' := ?_) #[true, false, true, false, true, true, false, true, false, true, false, true, true, false, true, false, false, false, false, false, false, false, false, false] rfl rfl (any_of HT_.out (by kernel_rfl)) (fun _ _ _ h => h) (Or.inl ⟨by rfl, ?_⟩) ?_ ?_
       rotate_left
       ·intro w'
        go_simp
        with_reducible rfl
       rotate_left
       ·simp only [Act.put, List.setIfInBounds_toArray, List.set_cons_zero, List.set_cons_succ, i64_w, i32_w]
        rfl
       refine pure_ (i := 16) (N := some 71) (v := ?_) (a' := ?_) #[true, false, true, false, true, true, false, true, false, true, false, true, true, false, true, false, true, false, false, false, false, false, false, false] rfl rfl (any_of HT_.out (by kernel_rfl)) (fun _ _ _ h => h) (Or.inl ⟨by rfl, ?_⟩) ?_ ?_
       rotate_left
       ·intro w'
        go_simp
        with_reducible rfl
       rotate_left
       ·simp only [Act.put, List.setIfInBounds_toArray, List.set_cons_zero, List.set_cons_succ, i64_w, i32_w]
        rfl
       refine pure_ (i := 18) (N := some 73) (v := ?_) (a' := ?_) #[true, false, true, false, true, true, false, true, false, true, false, true, true, false, true, false, true, false, true, false, false, false, false, false] rfl rfl (any_of HT_.out (by kernel_rfl)) (fun _ _ _ h => h) (Or.inl ⟨by rfl, ?_⟩) ?_ ?_
       rotate_left
       ·intro w'
        go_simp
        with_reducible rfl
       rotate_left
       ·simp only [Act.put, List.setIfInBounds_toArray, List.set_cons_zero, List.set_cons_succ, i64_w, i32_w]
        rfl
       refine pure_ (i := 19) (N := some 74) (v := ?_) (a' := ?_) #[true, false, true, false, true, true, false, true, false, true, false, true, true, false, true, false, true, false, true, true, false, false, false, false] rfl rfl (any_of HT_.out (by kernel_rfl)) (fun _ _ _ h => h) (Or.inl ⟨by rfl, ?_⟩) ?_ ?_
       rotate_left
       ·intro w'
        go_simp
        with_reducible rfl
       rotate_left
       ·simp only [Act.put, List.setIfInBounds_toArray, List.set_cons_zero, List.set_cons_succ, i64_w, i32_w]
        rfl
       refine take_ (i := 1) (N := some 56) (v := ?_) (a' := ?_) #[true, true, true, false, true, true, false, true, false, true, false, true, true, false, true, false, true, false, true, true, false, false, false, false] rfl rfl (take_ofW HT_.out HW_.out (by kernel_rfl)) (fun _ _ _ h => h) (Or.inl ⟨by rfl, ?_⟩) hHeld ?_ ?_
       rotate_left
       ·rintro w' ⟨s0, s1, s2, s3, s4, s5⟩
        go_simp
        with_reducible rfl
       rotate_left
       ·simp only [Act.put, List.setIfInBounds_toArray, List.set_cons_zero, List.set_cons_succ, i64_w, i32_w]
        rfl
       refine take_ (i := 3) (N := some 58) (v := ?_) (a' := ?_) #[true, true, true, true, true, true, false, true, false, true, false, true, true, false, true, false, true, false, true, true, false, false, false, false] rfl rfl (take_ofW HT_.out HW_.out (by kernel_rfl)) (fun _ _ _ h => h) (Or.inl ⟨by rfl, ?_⟩) hHeld ?_ ?_
       rotate_left
       ·rintro w' ⟨s0, s1, s2, s3, s4, s5⟩
        go_simp
        with_reducible rfl
       rotate_left
       ·simp only [Act.put, List.setIfInBounds_toArray, List.set_cons_zero, List.set_cons_succ, i64_w, i32_w]
        rfl
       refine take_ (i := 8) (N := some 63) (v := ?_) (a' := ?_) #[true, true, true, true, true, true, false, true, true, true, false, true, true, false, true, false, true, false, true, true, false, false, false, false] rfl rfl (take_ofW HT_.out HW_.out (by kernel_rfl)) (fun _ _ _ h => h) (Or.inl ⟨by rfl, ?_⟩) hHeld ?_ ?_
       rotate_left
       ·rintro w' ⟨s0, s1, s2, s3, s4, s5⟩
        go_simp
        with_reducible rfl
       rotate_left
       ·simp only [Act.put, List.setIfInBounds_toArray, List.set_cons_zero, List.set_cons_succ, i64_w, i32_w]
        rfl
       refine take_ (i := 10) (N := some 65) (v := ?_) (a' := ?_) #[true, true, true, true, true, true, false, true, true, true, true, true, true, false, true, false, true, false, true, true, false, false, false, false] rfl rfl (take_ofW HT_.out HW_.out (by kernel_rfl)) (fun _ _ _ h => h) (Or.inl ⟨by rfl, ?_⟩) hHeld ?_ ?_
       rotate_left
       ·rintro w' ⟨s0, s1, s2, s3, s4, s5⟩
        go_simp
        with_reducible rfl
       rotate_left
       ·simp only [Act.put, List.setIfInBounds_toArray, List.set_cons_zero, List.set_cons_succ, i64_w, i32_w]
        rfl
       refine take_ (i := 15) (N := some 70) (v := ?_) (a' := ?_) #[true, true, true, true, true, true, false, true, true, true, true, true, true, false, true, true, true, false, true, true, false, false, false, false] rfl rfl (take_ofW HT_.out HW_.out (by kernel_rfl)) (fun _ _ _ h => h) (Or.inl ⟨by rfl, ?_⟩) hHeld ?_ ?_
       rotate_left
       ·rintro w' ⟨s0, s1, s2, s3, s4, s5⟩
        go_simp
        with_reducible rfl
       rotate_left
       ·simp only [Act.put, List.setIfInBounds_toArray, List.set_cons_zero, List.set_cons_succ, i64_w, i32_w]
        rfl
       refine take_ (i := 17) (N := some 72) (v := ?_) (a' := ?_) #[true, true, true, true, true, true, false, true, true, true, true, true, true, false, true, true, true, true, true, true, false, false, false, false] rfl rfl (take_ofW HT_.out HW_.out (by kernel_rfl)) (fun _ _ _ h => h) (Or.inl ⟨by rfl, ?_⟩) hHeld ?_ ?_
       rotate_left
       ·rintro w' ⟨s0, s1, s2, s3, s4, s5⟩
        go_simp
        with_reducible rfl
       rotate_left
       ·simp only [Act.put, List.setIfInBounds_toArray, List.set_cons_zero, List.set_cons_succ, i64_w, i32_w]
        rfl
       refine one_ (i := 6) (N := some 61) #[true, true, true, true, true, true, true, true, true, true, true, true, true, false, true, true, true, true, true, true, false, false, false, false] rfl rfl (one_of HT_.out (by kernel_rfl)) (by decide) (fun K hK => ?_)
       refine goes_ Try.func41 (by kernel_rfl) rfl #[.int .i64 a0_0, .int .i64 a1_0, .int .i64 a2, .int .i64 a3] (by rfl) rfl rfl (by (try simp only [List.map_toArray, List.map_cons, List.map_nil]); first | done | rfl | (simp only [List.length_drop, List.length_take]; rfl)) ?_
       with_reducible refine (swarfref49_between.calls a0_0 a1_0 a2 a3 t305 _ A57.out).mono ?_
       rintro e w' ⟨rfl, ⟨nd, rfl⟩⟩
       refine ⟨_, rfl, ?_⟩
       refine hK.out _ _ ⟨(blk_cell BK295.out 0).trans rfl, (blk_cell BK295.out 1).trans rfl, (blk_cell BK295.out 2).trans rfl, (blk_cell BK296.out 0).trans rfl, (blk_cell BK296.out 1).trans rfl, (blk_cell BK296.out 2).trans rfl⟩ (fun hHeld => ?_)
       clear hK K
       refine norm_ (a' := ?_) ?_ ?_
       rotate_left
       ·show Act.put _ (some 61) _ = _
        simp only [Act.put, List.setIfInBounds_toArray, List.set_cons_zero, List.set_cons_succ, i64_w, i32_w]
        rfl
       refine one_ (i := 13) (N := some 68) #[true, true, true, true, true, true, true, true, true, true, true, true, true, true, true, true, true, true, true, true, false, false, false, false] rfl rfl (one_of HT_.out (by kernel_rfl)) (by decide) (fun K hK => ?_)
       refine goes_ Try.func41 (by kernel_rfl) rfl #[.int .i64 a0_1, .int .i64 a1_1, .int .i64 a2, .int .i64 a3] (by rfl) rfl rfl (by (try simp only [List.map_toArray, List.map_cons, List.map_nil]); first | done | rfl | (simp only [List.length_drop, List.length_take]; rfl)) ?_
       with_reducible refine (swarfref49_between.calls a0_1 a1_1 a2 a3 t306 _ A58.out).mono ?_
       rintro e w' ⟨rfl, ⟨nd, rfl⟩⟩
       refine ⟨_, rfl, ?_⟩
       refine hK.out _ _ ⟨(blk_cell BK295.out 0).trans rfl, (blk_cell BK295.out 1).trans rfl, (blk_cell BK295.out 2).trans rfl, (blk_cell BK296.out 0).trans rfl, (blk_cell BK296.out 1).trans rfl, (blk_cell BK296.out 2).trans rfl⟩ (fun hHeld => ?_)
       clear hK K
       refine norm_ (a' := ?_) ?_ ?_
       rotate_left
       ·show Act.put _ (some 68) _ = _
        simp only [Act.put, List.setIfInBounds_toArray, List.set_cons_zero, List.set_cons_succ, i64_w, i32_w]
        rfl
       refine one_ (i := 20) (N := some 75) #[true, true, true, true, true, true, true, true, true, true, true, true, true, true, true, true, true, true, true, true, true, false, false, false] rfl rfl (one_of HT_.out (by kernel_rfl)) (by decide) (fun K hK => ?_)
       refine goes_ Try.func41 (by kernel_rfl) rfl #[.int .i64 a0_2, .int .i64 a1_2, .int .i64 a2, .int .i64 a3] (by rfl) rfl rfl (by (try simp only [List.map_toArray, List.map_cons, List.map_nil]); first | done | rfl | (simp only [List.length_drop, List.length_take]; rfl)) ?_
       with_reducible refine (swarfref49_between.calls a0_2 a1_2 a2 a3 t307 _ A59.out).mono ?_
       rintro e w' ⟨rfl, ⟨nd, rfl⟩⟩
       refine ⟨_, rfl, ?_⟩
       refine hK.out _ _ ⟨(blk_cell BK295.out 0).trans rfl, (blk_cell BK295.out 1).trans rfl, (blk_cell BK295.out 2).trans rfl, (blk_cell BK296.out 0).trans rfl, (blk_cell BK296.out 1).trans rfl, (blk_cell BK296.out 2).trans rfl⟩ (fun hHeld => ?_)
       clear hK K
       refine norm_ (a' := ?_) ?_ ?_
       rotate_left
       ·show Act.put _ (some 75) _ = _
        simp only [Act.put, List.setIfInBounds_toArray, List.set_cons_zero, List.set_cons_succ, i64_w, i32_w]
        rfl
       refine pure_ (i := 21) (N := some 76) (v := ?_) (a' := ?_) #[true, true, true, true, true, true, true, true, true, true, true, true, true, true, true, true, true, true, true, true, true, true, false, false] rfl rfl (any_of HT_.out (by kernel_rfl)) (fun _ _ _ h => h) (Or.inl ⟨by rfl, ?_⟩) ?_ ?_
       rotate_left
       ·intro w'
        go_simp
        with_reducible rfl
       rotate_left
       ·simp only [Act.put, List.setIfInBounds_toArray, List.set_cons_zero, List.set_cons_succ, i64_w, i32_w]
        rfl
       refine one_ (i := 22) (N := none) #[true, true, true, true, true, true, true, true, true, true, true, true, true, true, true, true, true, true, true, true, true, true, true, false] rfl rfl (one_of HT_.out (by kernel_rfl)) (by decide) (fun K hK => ?_)
       have hs61 : w60.cell? ⟨gb297, 0, none⟩ = some (.int .i64 0) := (blk_cell BK297.out 0).trans rfl
       have hfs61 := blk_frozen BK297.out 0
       have hns61_0 := NB295_297.out
       have hns61_1 := NB296_297.out
       have hms61_0 := NB297_295.out
       have hms61_1 := NB297_296.out
       have hs62 : w60.cell? ⟨gb297, 1, none⟩ = some (.int .i64 0) := (blk_cell BK297.out 1).trans rfl
       have hfs62 := blk_frozen BK297.out 1
       have hns62_0 := NB295_297.out
       have hns62_1 := NB296_297.out
       have hms62_0 := NB297_295.out
       have hms62_1 := NB297_296.out
       have hs63 : w60.cell? ⟨gb297, 2, none⟩ = some (.int .i64 0) := (blk_cell BK297.out 2).trans rfl
       have hfs63 := blk_frozen BK297.out 2
       have hns63_0 := NB295_297.out
       have hns63_1 := NB296_297.out
       have hms63_0 := NB297_295.out
       have hms63_1 := NB297_296.out
       refine skip_ (w1 := ?_) (by rfl) rfl ?_ ?_
       rotate_left
       ·go_simp
        rfl
       refine hK.out _ _ ⟨((cell_far (p := ⟨gb297, _, none⟩) NB295_297.out _).trans (((cell_far (p := ⟨gb297, _, none⟩) NB295_297.out _).trans (((cell_far (p := ⟨gb297, _, none⟩) NB295_297.out _).trans (hHeld.1)))))), ((cell_far (p := ⟨gb297, _, none⟩) NB295_297.out _).trans (((cell_far (p := ⟨gb297, _, none⟩) NB295_297.out _).trans (((cell_far (p := ⟨gb297, _, none⟩) NB295_297.out _).trans (hHeld.2.1)))))), ((cell_far (p := ⟨gb297, _, none⟩) NB295_297.out _).trans (((cell_far (p := ⟨gb297, _, none⟩) NB295_297.out _).trans (((cell_far (p := ⟨gb297, _, none⟩) NB295_297.out _).trans (hHeld.2.2.1)))))), ((cell_far (p := ⟨gb297, _, none⟩) NB296_297.out _).trans (((cell_far (p := ⟨gb297, _, none⟩) NB296_297.out _).trans (((cell_far (p := ⟨gb297, _, none⟩) NB296_297.out _).trans (hHeld.2.2.2.1)))))), ((cell_far (p := ⟨gb297, _, none⟩) NB296_297.out _).trans (((cell_far (p := ⟨gb297, _, none⟩) NB296_297.out _).trans (((cell_far (p := ⟨gb297, _, none⟩) NB296_297.out _).trans (hHeld.2.2.2.2.1)))))), ((cell_far (p := ⟨gb297, _, none⟩) NB296_297.out _).trans (((cell_far (p := ⟨gb297, _, none⟩) NB296_297.out _).trans (((cell_far (p := ⟨gb297, _, none⟩) NB296_297.out _).trans (hHeld.2.2.2.2.2))))))⟩ (fun hHeld => ?_)
       clear hK K
       refine pure_ (i := 23) (N := some 9) (v := ?_) (a' := ?_) #[true, true, true, true, true, true, true, true, true, true, true, true, true, true, true, true, true, true, true, true, true, true, true, true] rfl rfl (any_of HT_.out (by kernel_rfl)) (fun _ _ _ h => h) (Or.inl ⟨by rfl, ?_⟩) ?_ ?_
       rotate_left
       ·intro w'
        go_simp
        with_reducible rfl
       rotate_left
       ·simp only [Act.put, List.setIfInBounds_toArray, List.set_cons_zero, List.set_cons_succ, i64_w, i32_w]
        rfl
       refine done_ (done_of HT_.out (by kernel_rfl)) ?_
       try go_wp2
       refine bodyPost_ret (results_ct rfl _ _ gb297 47 #[.int .i64 t305, .int .i64 t306, .int .i64 t307] (0, 0) _ rfl (by (with_reducible repeat (first | refine blk_drewN ?_ _ | refine blk_drew ?_ | refine blk_alloc ?_ _)); refine blk_put (cs := #[.int .i64 t305, .int .i64 t306, .int .i64 0]) ?_ 2 _ rfl; (with_reducible repeat (first | refine blk_drewN ?_ _ | refine blk_drew ?_ | refine blk_alloc ?_ _)); refine blk_put (cs := #[.int .i64 t305, .int .i64 0, .int .i64 0]) ?_ 1 _ rfl; (with_reducible repeat (first | refine blk_drewN ?_ _ | refine blk_drew ?_ | refine blk_alloc ?_ _)); refine blk_put (cs := #[.int .i64 0, .int .i64 0, .int .i64 0]) ?_ 0 _ rfl; (with_reducible repeat (first | refine blk_drewN ?_ _ | refine blk_drew ?_ | refine blk_alloc ?_ _)); exact BK297.out) Try.underlying47 rfl (by kernel_rfl)) rfl ?_
       exact ⟨by first | rfl | (simp [errW_none, errW_some] <;> rfl) | (simp [*, errW_none, errW_some] <;> rfl), by repeat (first | (with_reducible first | exact HB.out | apply below_alloc | apply pw_below_drewN | apply below_drew1 | refine below_set ?_ GE295.out | refine below_set ?_ GE296.out | refine below_set ?_ GE297.out) | exact HB.out)⟩
end Go.Proofs.Ytdfilkofhgmakaa.F
