/- next, by a contract: what it tells, for all limits, states and rests. -/
import Derived.Test.YtmaegpblaihepaaWc
import Derived.Test.YtmaegpblaihepaaHa
import Derived.Test.YtmaegpblaihepaaWq
import Derived.Test.YtmaegpblaihepaaFx14
namespace Go.Proofs.Ytmaegpblaihepaa.F
open Go.RowKit Go.Proofs.YtmaegpblaihepaaW.PrintWords Go.Proofs.YtmaegpblaihepaaW.PrintLast Go.Proofs.YtmaegpblaihepaaW.PrintMore
attribute [local go_sem] max2_int min2_int max_two min_two max_three min_three max_four min_four
set_option linter.unusedVariables false
set_option linter.unusedSimpArgs false
def profile_Limits_next.l0 : Nat → Int → Int → Int → Int → Int → Int → Int → Int → Option (Int × Int × Bool)
 | 0, _, _, _, _, _, _, _, _ => none
 | k + 1, x9, x10, a0_0, a0_1, a0_2, a1_0, a1_1, a2 => if x9 < x10 then ((profile_Limits_next_1.f k (wrap64 (x9 + (wrap64 (Int.tdiv (wrap64 ((wrap64 (x10 - x9)) + 1)) 2)))) a1_0 a1_1 a2 a0_0 a0_1 a0_2).bind fun t => (if t = true then (profile_Limits_next.l0 k (wrap64 (x9 + (wrap64 (Int.tdiv (wrap64 ((wrap64 (x10 - x9)) + 1)) 2)))) x10 a0_0 a0_1 a0_2 a1_0 a1_1 a2) else (profile_Limits_next.l0 k x9 (wrap64 ((wrap64 (x9 + (wrap64 (Int.tdiv (wrap64 ((wrap64 (x10 - x9)) + 1)) 2)))) - 1)) a0_0 a0_1 a0_2 a1_0 a1_1 a2))) else (some (wrap64 (a1_0 + x9), x9, true))
def profile_Limits_next.f (k : Nat) (a0_0 a0_1 a0_2 a1_0 a1_1 a2 : Int) : Option (Int × Int × Bool) := (profile_Limits_brake.f k a0_0 a0_1 a0_2 a1_0 a1_1).bind fun bt => (if (mx bt.2 (wrap64 (1 - a1_0))) > (mn (mn a0_1 (wrap64 (a1_1 + a0_2))) (wrap64 (a2 - a1_0))) then (some (0, 0, false)) else ((profile_Limits_next_1.f k (mx bt.2 (wrap64 (1 - a1_0))) a1_0 a1_1 a2 a0_0 a0_1 a0_2).bind fun t => (if t = true then (profile_Limits_next.l0 k (mx bt.2 (wrap64 (1 - a1_0))) (mn (mn a0_1 (wrap64 (a1_1 + a0_2))) (wrap64 (a2 - a1_0))) a0_0 a0_1 a0_2 a1_0 a1_1 a2) else (some (0, 0, false)))))
theorem profile_Limits_next.mono_l : ∀ k, (∀ y0 y1 y2 y3 y4 y5 y6 y7, LeO (profile_Limits_next.l0 k y0 y1 y2 y3 y4 y5 y6 y7) (profile_Limits_next.l0 (k + 1) y0 y1 y2 y3 y4 y5 y6 y7))
 | 0 => fun _ _ _ _ _ _ _ _ r h => by simp [profile_Limits_next.l0] at h
 | k + 1 => by
  have ih0 := profile_Limits_next.mono_l k
  intro y0 y1 y2 y3 y4 y5 y6 y7
  unfold profile_Limits_next.l0
  repeat' first
  | (with_reducible exact ih0 _ _ _ _ _ _ _ _)
  | (with_reducible exact profile_Limits_next_1.mono _ _ _ _ _ _ _ _)
  | (with_reducible exact profile_Limits_brake.mono _ _ _ _ _ _)
  | (with_reducible exact LeO.refl _)
  | (with_reducible exact LeO.none _)
  | (with_reducible refine LeO.ite ?_ ?_)
  | (with_reducible refine LeO.bind ?_ (fun _ => ?_))
  | exact LeO.refl _
  | refine LeO.ite ?_ ?_
  | refine LeO.bind ?_ (fun _ => ?_)
theorem profile_Limits_next.mono : ∀ a0_0 a0_1 a0_2 a1_0 a1_1 a2 k, LeO (profile_Limits_next.f k a0_0 a0_1 a0_2 a1_0 a1_1 a2) (profile_Limits_next.f (k + 1) a0_0 a0_1 a0_2 a1_0 a1_1 a2) := by
 intro a0_0 a0_1 a0_2 a1_0 a1_1 a2 k
 have ih0 := profile_Limits_next.mono_l k
 unfold profile_Limits_next.f
 repeat' first
 | (with_reducible exact ih0 _ _ _ _ _ _ _ _)
 | (with_reducible exact profile_Limits_next_1.mono _ _ _ _ _ _ _ _)
 | (with_reducible exact profile_Limits_brake.mono _ _ _ _ _ _)
 | (with_reducible exact LeO.refl _)
 | (with_reducible exact LeO.none _)
 | (with_reducible refine LeO.ite ?_ ?_)
 | (with_reducible refine LeO.bind ?_ (fun _ => ?_))
 | exact LeO.refl _
 | refine LeO.ite ?_ ?_
 | refine LeO.bind ?_ (fun _ => ?_)
def profile_Limits_next.T2 : Bool × List (List Nat × List Nat) := (true, [([], []), ([], []), ([0, 1], [0, 1]), ([2], [2]), ([], []), ([4], [4]), ([5], [5]), ([3, 6], [3, 6]), ([], []), ([8], [8]), ([], []), ([10], [10]), ([], []), ([12], [12]), ([11, 13], [11, 13]), ([], []), ([], []), ([16], [16]), ([15, 17], [15, 17]), ([9, 14, 18], [9, 14, 18]), ([7, 2, 0, 1, 2, 3, 4, 5, 6, 7], [7]), ([19, 20, 0, 1, 2, 3, 4, 5, 6, 7, 8, 9, 10, 11, 12, 13, 14, 15, 16, 17, 18, 19, 20], [19])])
def profile_Limits_next.B2 : List Nat := [0, 0, 3, 7, 0, 16, 48, 127, 0, 256, 0, 1024, 0, 4096, 15360, 0, 0, 65536, 229376, 524032, 255, 2097151]
theorem profile_Limits_next.tab2 : rtab .any (opsOf Try.f47 2) = profile_Limits_next.T2 := by kernel_rfl
theorem profile_Limits_next.bits2 : waitsOk profile_Limits_next.T2.2 profile_Limits_next.B2 = true := by kernel_rfl
set_option maxRecDepth 100000 in
set_option maxHeartbeats 8000000 in
theorem profile_Limits_next.calls (k : Nat) (a0_0 a0_1 a0_2 a1_0 a1_1 a2 : Int) (r1 r2 : Int) (r3 : Bool) (w : World) (h : profile_Limits_next.f k a0_0 a0_1 a0_2 a1_0 a1_1 a2 = some (r1, r2, r3)) :
 Calls Try.prog 47 #[.agg #[.int .i64 a0_0, .int .i64 a0_1, .int .i64 a0_2], .agg #[.int .i64 a1_0, .int .i64 a1_1], .int .i64 a2] w fun e w' => e = .returned (.tuple #[.agg #[.int .i64 r1, .int .i64 r2], .bool r3]) ∧ Below w.heap.size w w' := by
 have hu31 := Try.underlying31
 have hu81 := Try.underlying81
 have HB := Aside0.mk (Below.refl w.heap.size w)
 unfold profile_Limits_next.f at h
 have H := Option.bind_eq_some_iff.mp h
 clear h
 obtain ⟨⟨t1, t2⟩, A0, H⟩ := H
 have AB := Aside0.mk A0
 clear A0
 have hfd : ∀ w : World, (Instr.field 81 (.agg #[.int .i64 t1, .int .i64 t2]) 1).run Try.prog w = .ok (.int .i64 t2) w := fun _ => by kernel_rfl
 replace H : (if (mx t2 (wrap64 (1 - a1_0))) > (mn (mn a0_1 (wrap64 (a1_1 + a0_2))) (wrap64 (a2 - a1_0))) then (some (0, 0, false)) else ((profile_Limits_next_1.f k (mx t2 (wrap64 (1 - a1_0))) a1_0 a1_1 a2 a0_0 a0_1 a0_2).bind fun t => (if t = true then (profile_Limits_next.l0 k (mx t2 (wrap64 (1 - a1_0))) (mn (mn a0_1 (wrap64 (a1_1 + a0_2))) (wrap64 (a2 - a1_0))) a0_0 a0_1 a0_2 a1_0 a1_1 a2) else (some (0, 0, false))))) = some (r1, r2, r3) := H
 obtain ⟨lo, hlo⟩ : ∃ j_ : Int, (mx t2 (wrap64 (1 - a1_0))) = j_ := ⟨_, rfl⟩
 rw [hlo] at H
 have hlo_ : (if t2 < (wrap64 (1 - a1_0)) then (wrap64 (1 - a1_0)) else t2) = lo := hlo
 obtain ⟨hi, hhi⟩ : ∃ j_ : Int, (mn (mn a0_1 (wrap64 (a1_1 + a0_2))) (wrap64 (a2 - a1_0))) = j_ := ⟨_, rfl⟩
 rw [hhi] at H
 have hhi_ : (if (wrap64 (a2 - a1_0)) < (if (wrap64 (a1_1 + a0_2)) < a0_1 then (wrap64 (a1_1 + a0_2)) else a0_1) then (wrap64 (a2 - a1_0)) else (if (wrap64 (a1_1 + a0_2)) < a0_1 then (wrap64 (a1_1 + a0_2)) else a0_1)) = hi := hhi
 clear hlo hhi
 have HH := Aside0.mk H
 clear H
 go_enter Try.func47, Try.ntmps47
 go_wp2_with (first | ((with_reducible refine gate_dst (N := 3) rfl ?_); refine box_event ?hg (N := 3) ?hd (cs := #[.int .i64 a0_0, .int .i64 a0_1, .int .i64 a0_2]) (t := 31) ?hr ?_; (case hd => rfl); (case hg => rfl); (case hr => first | (go_simp; done) | (go_simp; rfl)); intro gbl hg wz1 hbox hb; have n0_ := Aside0.mk (below_step (by repeat (first | (with_reducible first | exact HB.out | apply below_alloc | apply pw_below_drewN | apply below_drew1) | exact HB.out)) hb); have n1_ := Aside0.mk (hbox); have n2_ := Aside0.mk ((by rw [hg]; exact (below_size (by repeat (first | (with_reducible first | exact HB.out | apply below_alloc | apply pw_below_drewN | apply below_drew1) | exact HB.out)))) : w.heap.size ≤ gbl); clear HB; have HB := n0_; have BKl := n1_; have GEl := n2_; clear n0_ n1_ n2_; clear hb hbox hg) | ((with_reducible refine gate_dst (N := 4) rfl ?_); refine box_event ?hg (N := 4) ?hd (cs := #[.int .i64 a1_0, .int .i64 a1_1]) (t := 81) ?hr ?_; (case hd => rfl); (case hg => rfl); (case hr => first | (go_simp; done) | (go_simp; rfl)); intro gbs hg wz2 hbox hb; have n0_ := Aside0.mk (blk_below (g := gbl) (o := .cells #[.int .i64 a0_0, .int .i64 a0_1, .int .i64 a0_2] 31 (0, 0)) (by (with_reducible repeat (first | refine blk_drewN ?_ _ | refine blk_drew ?_ | refine blk_alloc ?_ _)); exact BKl.out) hb); have n1_ := Aside0.mk (below_step (by repeat (first | (with_reducible first | exact HB.out | apply below_alloc | apply pw_below_drewN | apply below_drew1 | refine below_set ?_ GEl.out) | exact HB.out)) hb); have n2_ := Aside0.mk (hbox); have n3_ := Aside0.mk ((by rw [hg]; exact (below_size (by repeat (first | (with_reducible first | exact HB.out | apply below_alloc | apply pw_below_drewN | apply below_drew1 | refine below_set ?_ GEl.out) | exact HB.out)))) : w.heap.size ≤ gbs); have n4_ := Aside0.mk ((by rw [hg]; exact Nat.ne_of_lt (blk_lt (g := gbl) (o := .cells #[.int .i64 a0_0, .int .i64 a0_1, .int .i64 a0_2] 31 (0, 0)) (by (with_reducible repeat (first | refine blk_drewN ?_ _ | refine blk_drew ?_ | refine blk_alloc ?_ _)); exact BKl.out))) : gbl ≠ gbs); have n5_ := Aside0.mk ((by rw [hg]; exact Nat.ne_of_gt (blk_lt (g := gbl) (o := .cells #[.int .i64 a0_0, .int .i64 a0_1, .int .i64 a0_2] 31 (0, 0)) (by (with_reducible repeat (first | refine blk_drewN ?_ _ | refine blk_drew ?_ | refine blk_alloc ?_ _)); exact BKl.out))) : gbs ≠ gbl); clear BKl HB; have BKl := n0_; have HB := n1_; have BKs := n2_; have GEs := n3_; have NBl_s := n4_; have NBs_l := n5_; clear n0_ n1_ n2_ n3_ n4_ n5_; clear hb hbox hg) | ((with_reducible refine gate_dst (N := 5) rfl ?_); refine box_event ?hg (N := 5) ?hd (cs := #[.int .i64 a2]) (t := 2) ?hr ?_; (case hd => rfl); (case hg => rfl); (case hr => first | (go_simp; done) | (go_simp; rfl)); intro gbr hg wz3 hbox hb; have n0_ := Aside0.mk (blk_below (g := gbl) (o := .cells #[.int .i64 a0_0, .int .i64 a0_1, .int .i64 a0_2] 31 (0, 0)) (by (with_reducible repeat (first | refine blk_drewN ?_ _ | refine blk_drew ?_ | refine blk_alloc ?_ _)); exact BKl.out) hb); have n1_ := Aside0.mk (blk_below (g := gbs) (o := .cells #[.int .i64 a1_0, .int .i64 a1_1] 81 (0, 0)) (by (with_reducible repeat (first | refine blk_drewN ?_ _ | refine blk_drew ?_ | refine blk_alloc ?_ _)); exact BKs.out) hb); have n2_ := Aside0.mk (below_step (by repeat (first | (with_reducible first | exact HB.out | apply below_alloc | apply pw_below_drewN | apply below_drew1 | refine below_set ?_ GEl.out | refine below_set ?_ GEs.out) | exact HB.out)) hb); have n3_ := Aside0.mk (hbox); have n4_ := Aside0.mk ((by rw [hg]; exact (below_size (by repeat (first | (with_reducible first | exact HB.out | apply below_alloc | apply pw_below_drewN | apply below_drew1 | refine below_set ?_ GEl.out | refine below_set ?_ GEs.out) | exact HB.out)))) : w.heap.size ≤ gbr); have n5_ := Aside0.mk ((by rw [hg]; exact Nat.ne_of_lt (blk_lt (g := gbl) (o := .cells #[.int .i64 a0_0, .int .i64 a0_1, .int .i64 a0_2] 31 (0, 0)) (by (with_reducible repeat (first | refine blk_drewN ?_ _ | refine blk_drew ?_ | refine blk_alloc ?_ _)); exact BKl.out))) : gbl ≠ gbr); have n6_ := Aside0.mk ((by rw [hg]; exact Nat.ne_of_gt (blk_lt (g := gbl) (o := .cells #[.int .i64 a0_0, .int .i64 a0_1, .int .i64 a0_2] 31 (0, 0)) (by (with_reducible repeat (first | refine blk_drewN ?_ _ | refine blk_drew ?_ | refine blk_alloc ?_ _)); exact BKl.out))) : gbr ≠ gbl); have n7_ := Aside0.mk ((by rw [hg]; exact Nat.ne_of_lt (blk_lt (g := gbs) (o := .cells #[.int .i64 a1_0, .int .i64 a1_1] 81 (0, 0)) (by (with_reducible repeat (first | refine blk_drewN ?_ _ | refine blk_drew ?_ | refine blk_alloc ?_ _)); exact BKs.out))) : gbs ≠ gbr); have n8_ := Aside0.mk ((by rw [hg]; exact Nat.ne_of_gt (blk_lt (g := gbs) (o := .cells #[.int .i64 a1_0, .int .i64 a1_1] 81 (0, 0)) (by (with_reducible repeat (first | refine blk_drewN ?_ _ | refine blk_drew ?_ | refine blk_alloc ?_ _)); exact BKs.out))) : gbr ≠ gbs); clear BKl BKs HB; have BKl := n0_; have BKs := n1_; have HB := n2_; have BKr := n3_; have GEr := n4_; have NBl_r := n5_; have NBr_l := n6_; have NBs_r := n7_; have NBr_s := n8_; clear n0_ n1_ n2_ n3_ n4_ n5_ n6_ n7_ n8_; clear hb hbox hg) | ((with_reducible refine gate_dst (N := 6) rfl ?_); refine box_event ?hg (N := 6) ?hd (cs := #[.int .i64 0, .int .i64 0]) (t := 81) ?hr ?_; (case hd => rfl); (case hg => rfl); (case hr => first | (go_simp; done) | (go_simp; rfl)); intro gbq hg wz4 hbox hb; have n0_ := Aside0.mk (blk_below (g := gbl) (o := .cells #[.int .i64 a0_0, .int .i64 a0_1, .int .i64 a0_2] 31 (0, 0)) (by (with_reducible repeat (first | refine blk_drewN ?_ _ | refine blk_drew ?_ | refine blk_alloc ?_ _)); exact BKl.out) hb); have n1_ := Aside0.mk (blk_below (g := gbs) (o := .cells #[.int .i64 a1_0, .int .i64 a1_1] 81 (0, 0)) (by (with_reducible repeat (first | refine blk_drewN ?_ _ | refine blk_drew ?_ | refine blk_alloc ?_ _)); exact BKs.out) hb); have n2_ := Aside0.mk (blk_below (g := gbr) (o := .cells #[.int .i64 a2] 2 (0, 0)) (by (with_reducible repeat (first | refine blk_drewN ?_ _ | refine blk_drew ?_ | refine blk_alloc ?_ _)); exact BKr.out) hb); have n3_ := Aside0.mk (below_step (by repeat (first | (with_reducible first | exact HB.out | apply below_alloc | apply pw_below_drewN | apply below_drew1 | refine below_set ?_ GEl.out | refine below_set ?_ GEs.out | refine below_set ?_ GEr.out) | exact HB.out)) hb); have n4_ := Aside0.mk (hbox); have n5_ := Aside0.mk ((by rw [hg]; exact (below_size (by repeat (first | (with_reducible first | exact HB.out | apply below_alloc | apply pw_below_drewN | apply below_drew1 | refine below_set ?_ GEl.out | refine below_set ?_ GEs.out | refine below_set ?_ GEr.out) | exact HB.out)))) : w.heap.size ≤ gbq); have n6_ := Aside0.mk ((by rw [hg]; exact Nat.ne_of_lt (blk_lt (g := gbl) (o := .cells #[.int .i64 a0_0, .int .i64 a0_1, .int .i64 a0_2] 31 (0, 0)) (by (with_reducible repeat (first | refine blk_drewN ?_ _ | refine blk_drew ?_ | refine blk_alloc ?_ _)); exact BKl.out))) : gbl ≠ gbq); have n7_ := Aside0.mk ((by rw [hg]; exact Nat.ne_of_gt (blk_lt (g := gbl) (o := .cells #[.int .i64 a0_0, .int .i64 a0_1, .int .i64 a0_2] 31 (0, 0)) (by (with_reducible repeat (first | refine blk_drewN ?_ _ | refine blk_drew ?_ | refine blk_alloc ?_ _)); exact BKl.out))) : gbq ≠ gbl); have n8_ := Aside0.mk ((by rw [hg]; exact Nat.ne_of_lt (blk_lt (g := gbs) (o := .cells #[.int .i64 a1_0, .int .i64 a1_1] 81 (0, 0)) (by (with_reducible repeat (first | refine blk_drewN ?_ _ | refine blk_drew ?_ | refine blk_alloc ?_ _)); exact BKs.out))) : gbs ≠ gbq); have n9_ := Aside0.mk ((by rw [hg]; exact Nat.ne_of_gt (blk_lt (g := gbs) (o := .cells #[.int .i64 a1_0, .int .i64 a1_1] 81 (0, 0)) (by (with_reducible repeat (first | refine blk_drewN ?_ _ | refine blk_drew ?_ | refine blk_alloc ?_ _)); exact BKs.out))) : gbq ≠ gbs); have n10_ := Aside0.mk ((by rw [hg]; exact Nat.ne_of_lt (blk_lt (g := gbr) (o := .cells #[.int .i64 a2] 2 (0, 0)) (by (with_reducible repeat (first | refine blk_drewN ?_ _ | refine blk_drew ?_ | refine blk_alloc ?_ _)); exact BKr.out))) : gbr ≠ gbq); have n11_ := Aside0.mk ((by rw [hg]; exact Nat.ne_of_gt (blk_lt (g := gbr) (o := .cells #[.int .i64 a2] 2 (0, 0)) (by (with_reducible repeat (first | refine blk_drewN ?_ _ | refine blk_drew ?_ | refine blk_alloc ?_ _)); exact BKr.out))) : gbq ≠ gbr); clear BKl BKs BKr HB; have BKl := n0_; have BKs := n1_; have BKr := n2_; have HB := n3_; have BKq := n4_; have GEq := n5_; have NBl_q := n6_; have NBq_l := n7_; have NBs_q := n8_; have NBq_s := n9_; have NBr_q := n10_; have NBq_r := n11_; clear n0_ n1_ n2_ n3_ n4_ n5_ n6_ n7_ n8_ n9_ n10_ n11_; clear hb hbox hg))
 refine start_ (n := 22) (S := fun w' => Aside0 (w'.heap[gbl]? = some (.cells #[.int .i64 a0_0, .int .i64 a0_1, .int .i64 a0_2] 31 (0, 0))) ∧ Aside0 (w'.heap[gbs]? = some (.cells #[.int .i64 a1_0, .int .i64 a1_1] 81 (0, 0))) ∧ Aside0 (w'.heap[gbr]? = some (.cells #[.int .i64 a2] 2 (0, 0))) ∧ Aside0 (w'.heap[gbq]? = some (.cells #[.int .i64 0, .int .i64 0] 81 (0, 0))) ∧ Aside0 (Below w.heap.size w w') ∧ w'.cell? ⟨gbl, 0, none⟩ = some (.int .i64 a0_0) ∧ w'.cell? ⟨gbl, 1, none⟩ = some (.int .i64 a0_1) ∧ w'.cell? ⟨gbl, 2, none⟩ = some (.int .i64 a0_2) ∧ w'.cell? ⟨gbs, 0, none⟩ = some (.int .i64 a1_0) ∧ w'.cell? ⟨gbs, 1, none⟩ = some (.int .i64 a1_1) ∧ w'.cell? ⟨gbr, 0, none⟩ = some (.int .i64 a2) ∧ w'.cell? ⟨gbq, 0, none⟩ = some (.int .i64 0) ∧ w'.cell? ⟨gbq, 1, none⟩ = some (.int .i64 0)) (ds := []) #[false, false, false, false, false, false, false, false, false, false, false, false, false, false, false, false, false, false, false, false, false, false] (by kernel_rfl) rfl rfl ?hS_ (fun hHeld => ?_)
 rotate_left
 refine with_tabW profile_Limits_next.tab2 profile_Limits_next.bits2 (fun HT_ HW_ => ?_)
 rotate_left
 · exact ⟨⟨by (with_reducible repeat (first | refine blk_drewN ?_ _ | refine blk_drew ?_ | refine blk_alloc ?_ _)); exact BKl.out⟩, ⟨by (with_reducible repeat (first | refine blk_drewN ?_ _ | refine blk_drew ?_ | refine blk_alloc ?_ _)); exact BKs.out⟩, ⟨by (with_reducible repeat (first | refine blk_drewN ?_ _ | refine blk_drew ?_ | refine blk_alloc ?_ _)); exact BKr.out⟩, ⟨by (with_reducible repeat (first | refine blk_drewN ?_ _ | refine blk_drew ?_ | refine blk_alloc ?_ _)); exact BKq.out⟩, ⟨by repeat (first | (with_reducible first | exact HB.out | apply below_alloc | apply pw_below_drewN | apply below_drew1 | refine below_set ?_ GEl.out | refine below_set ?_ GEs.out | refine below_set ?_ GEr.out | refine below_set ?_ GEq.out) | exact HB.out)⟩, (blk_cell (t := 31) (cs := #[.int .i64 a0_0, .int .i64 a0_1, .int .i64 a0_2]) (by (with_reducible repeat (first | refine blk_drewN ?_ _ | refine blk_drew ?_ | refine blk_alloc ?_ _)); exact BKl.out) 0).trans rfl, (blk_cell (t := 31) (cs := #[.int .i64 a0_0, .int .i64 a0_1, .int .i64 a0_2]) (by (with_reducible repeat (first | refine blk_drewN ?_ _ | refine blk_drew ?_ | refine blk_alloc ?_ _)); exact BKl.out) 1).trans rfl, (blk_cell (t := 31) (cs := #[.int .i64 a0_0, .int .i64 a0_1, .int .i64 a0_2]) (by (with_reducible repeat (first | refine blk_drewN ?_ _ | refine blk_drew ?_ | refine blk_alloc ?_ _)); exact BKl.out) 2).trans rfl, (blk_cell (t := 81) (cs := #[.int .i64 a1_0, .int .i64 a1_1]) (by (with_reducible repeat (first | refine blk_drewN ?_ _ | refine blk_drew ?_ | refine blk_alloc ?_ _)); exact BKs.out) 0).trans rfl, (blk_cell (t := 81) (cs := #[.int .i64 a1_0, .int .i64 a1_1]) (by (with_reducible repeat (first | refine blk_drewN ?_ _ | refine blk_drew ?_ | refine blk_alloc ?_ _)); exact BKs.out) 1).trans rfl, (blk_cell (t := 2) (cs := #[.int .i64 a2]) (by (with_reducible repeat (first | refine blk_drewN ?_ _ | refine blk_drew ?_ | refine blk_alloc ?_ _)); exact BKr.out) 0).trans rfl, (blk_cell (t := 81) (cs := #[.int .i64 0, .int .i64 0]) (by (with_reducible repeat (first | refine blk_drewN ?_ _ | refine blk_drew ?_ | refine blk_alloc ?_ _)); exact BKq.out) 0).trans rfl, (blk_cell (t := 81) (cs := #[.int .i64 0, .int .i64 0]) (by (with_reducible repeat (first | refine blk_drewN ?_ _ | refine blk_drew ?_ | refine blk_alloc ?_ _)); exact BKq.out) 1).trans rfl⟩
 generalize World.drew _ = wz5 at hHeld ⊢
 refine pu 4 17 (bzz 22 16) (any_of HT_.out (by kernel_rfl)) ?_
 refine pu 8 21 (bzz 22 272) (any_of HT_.out (by kernel_rfl)) ?_
 refine pu 10 23 (bzz 22 1296) (any_of HT_.out (by kernel_rfl)) ?_
 refine pu 12 25 (bzz 22 5392) (any_of HT_.out (by kernel_rfl)) ?_
 refine pu 16 29 (bzz 22 70928) (any_of HT_.out (by kernel_rfl)) ?_
 refine ta 0 13 (bzz 22 70929) (take_ofW HT_.out HW_.out (by kernel_rfl)) hHeld ?_
 refine ta 1 14 (bzz 22 70931) (take_ofW HT_.out HW_.out (by kernel_rfl)) hHeld ?_
 refine ta 5 18 (bzz 22 70963) (take_ofW HT_.out HW_.out (by kernel_rfl)) hHeld ?_
 refine pu 6 19 (bzz 22 71027) (any_of HT_.out (by kernel_rfl)) ?_
 refine ta 9 22 (bzz 22 71539) (take_ofW HT_.out HW_.out (by kernel_rfl)) hHeld ?_
 refine ta 11 24 (bzz 22 73587) (take_ofW HT_.out HW_.out (by kernel_rfl)) hHeld ?_
 refine ta 13 26 (bzz 22 81779) (take_ofW HT_.out HW_.out (by kernel_rfl)) hHeld ?_
 refine pu 14 27 (bzz 22 98163) (any_of HT_.out (by kernel_rfl)) ?_
 refine ta 15 28 (bzz 22 130931) (take_ofW HT_.out HW_.out (by kernel_rfl)) hHeld ?_
 refine ta 17 30 (bzz 22 262003) (take_ofW HT_.out HW_.out (by kernel_rfl)) hHeld ?_
 refine pu 18 31 (bzz 22 524147) (any_of HT_.out (by kernel_rfl)) ?_
 refine pu 19 32 (bzz 22 1048435) (any_of HT_.out (by kernel_rfl)) ?_
 refine one_ (i := 2) (N := some 15) (bzz 22 1048439) rfl rfl (one_of HT_.out (by kernel_rfl)) (by decide) (fun K hK => ?_)
 refine goes_ Try.func42 (by kernel_rfl) rfl #[.agg #[.int .i64 a0_0, .int .i64 a0_1, .int .i64 a0_2], .agg #[.int .i64 a1_0, .int .i64 a1_1]] (by rfl) rfl rfl (by simp only [List.map_toArray, List.map_cons, List.map_nil]; rfl) ?_
 with_reducible refine (profile_Limits_brake.calls k a0_0 a0_1 a0_2 a1_0 a1_1 t1 t2 _ AB.out).mono ?_
 rintro e w3 ⟨rfl, hb⟩
 refine ⟨_, rfl, ?_⟩
 refine hK.out _ _ ⟨⟨blk_below hHeld.1.out hb⟩, ⟨blk_below hHeld.2.1.out hb⟩, ⟨blk_below hHeld.2.2.1.out hb⟩, ⟨blk_below hHeld.2.2.2.1.out hb⟩, ⟨below_step hHeld.2.2.2.2.1.out hb⟩, (blk_cell (blk_below hHeld.1.out hb) 0).trans rfl, (blk_cell (blk_below hHeld.1.out hb) 1).trans rfl, (blk_cell (blk_below hHeld.1.out hb) 2).trans rfl, (blk_cell (blk_below hHeld.2.1.out hb) 0).trans rfl, (blk_cell (blk_below hHeld.2.1.out hb) 1).trans rfl, (blk_cell (blk_below hHeld.2.2.1.out hb) 0).trans rfl, (blk_cell (blk_below hHeld.2.2.2.1.out hb) 0).trans rfl, (blk_cell (blk_below hHeld.2.2.2.1.out hb) 1).trans rfl⟩ (fun hHeld => ?_)
 clear hK K
 refine norm_ (a' := ?_) ?_ ?_
 rotate_left
 · show Act.put _ (some 15) _ = _
   simp only [Act.put, List.setIfInBounds_toArray, List.set_cons_zero, List.set_cons_succ, i64_w, i32_w]
   rfl
 refine pu 3 16 (bzz 22 1048447) (any_of HT_.out (by kernel_rfl)) ?_
 refine pu 7 20 (bzz 22 1048575) (any_of HT_.out (by kernel_rfl)) ?_
 refine pu 20 9 (bzz 22 2097151) (any_of HT_.out (by kernel_rfl)) ?_
 refine pu 21 10 (bzz 22 4194303) (any_of HT_.out (by kernel_rfl)) ?_
 refine done_ (done_of HT_.out (by kernel_rfl)) ?_
 try clear HT_ HW_
 have hAll_ := hHeld
 clear hHeld
 clear BKl BKs BKr BKq HB
 have BKl := hAll_.1
 have BKs := hAll_.2.1
 have BKr := hAll_.2.2.1
 have BKq := hAll_.2.2.2.1
 have HB := hAll_.2.2.2.2.1
 clear hAll_
 clear hlo_ hhi_ hfd
 have H := HH.out
 clear HH
 by_cases cc : lo > hi
 · rw [if_pos cc] at H
   have cb : decide (hi < lo) = true := decide_eq_true cc
   clear cc
   simp only [Option.some.injEq, Prod.mk.injEq] at H
   obtain ⟨rfl, rfl, rfl⟩ := H
   have hczq_s_0 : w3.cell? ⟨gbs, 0, none⟩ = some (.int .i64 a1_0) := (blk_cell BKs.out 0).trans rfl
   have hczq_s_1 : w3.cell? ⟨gbs, 1, none⟩ = some (.int .i64 a1_1) := (blk_cell BKs.out 1).trans rfl
   have hfzq_s_0 := blk_frozen BKs.out 0
   have hfzq_s_1 := blk_frozen BKs.out 1
   have hczq_q_0 : w3.cell? ⟨gbq, 0, none⟩ = some (.int .i64 0) := (blk_cell BKq.out 0).trans rfl
   have hczq_q_1 : w3.cell? ⟨gbq, 1, none⟩ = some (.int .i64 0) := (blk_cell BKq.out 1).trans rfl
   have hfzq_q_0 := blk_frozen BKq.out 0
   have hfzq_q_1 := blk_frozen BKq.out 1
   go_wp2
   refine bodyPost_ret (results_ct rfl _ _ gbq 81 #[.int .i64 0, .int .i64 0] (0, 0) _ rfl (by (with_reducible repeat (first | refine blk_drewN ?_ _ | refine blk_drew ?_ | refine blk_alloc ?_ _)); refine blk_put (cs := #[.int .i64 0, .int .i64 0]) ?_ 1 _ rfl; (with_reducible repeat (first | refine blk_drewN ?_ _ | refine blk_drew ?_ | refine blk_alloc ?_ _)); refine blk_put (cs := #[.int .i64 0, .int .i64 0]) ?_ 0 _ rfl; (with_reducible repeat (first | refine blk_drewN ?_ _ | refine blk_drew ?_ | refine blk_alloc ?_ _)); exact BKq.out) Try.underlying81 rfl (by kernel_rfl)) rfl ?_
   exact ⟨rfl, by repeat (first | (with_reducible first | exact HB.out | apply below_alloc | apply pw_below_drewN | apply below_drew1 | refine below_set ?_ GEl.out | refine below_set ?_ GEs.out | refine below_set ?_ GEr.out | refine below_set ?_ GEq.out) | exact HB.out)⟩
 · rw [if_neg cc] at H
   have cb : decide (hi < lo) = false := decide_eq_false cc
   clear cc
   replace H := Option.bind_eq_some_iff.mp H
   obtain ⟨t3, A0, H⟩ := H
   have AC := Aside0.mk A0
   clear A0
   cases t3 with
   | false =>
    replace H : (some (0, 0, false) : Option (Int × Int × Bool)) = some (r1, r2, r3) := H
    simp only [Option.some.injEq, Prod.mk.injEq] at H
    obtain ⟨rfl, rfl, rfl⟩ := H
    go_wp2_with (go_at_call 52; (with_reducible refine (profile_Limits_next_1.calls k lo a1_0 a1_1 a2 a0_0 a0_1 a0_2 false _ _ _ _ BKs.out BKr.out BKl.out AC.out).mono ?_); rintro e w9 ⟨rfl, hb⟩; have n0_ := Aside0.mk (blk_below (g := gbl) (o := .cells #[.int .i64 a0_0, .int .i64 a0_1, .int .i64 a0_2] 31 (0, 0)) (by (with_reducible repeat (first | refine blk_drewN ?_ _ | refine blk_drew ?_ | refine blk_alloc ?_ _)); exact BKl.out) hb); have n1_ := Aside0.mk (blk_below (g := gbs) (o := .cells #[.int .i64 a1_0, .int .i64 a1_1] 81 (0, 0)) (by (with_reducible repeat (first | refine blk_drewN ?_ _ | refine blk_drew ?_ | refine blk_alloc ?_ _)); exact BKs.out) hb); have n2_ := Aside0.mk (blk_below (g := gbr) (o := .cells #[.int .i64 a2] 2 (0, 0)) (by (with_reducible repeat (first | refine blk_drewN ?_ _ | refine blk_drew ?_ | refine blk_alloc ?_ _)); exact BKr.out) hb); have n3_ := Aside0.mk (blk_below (g := gbq) (o := .cells #[.int .i64 0, .int .i64 0] 81 (0, 0)) (by (with_reducible repeat (first | refine blk_drewN ?_ _ | refine blk_drew ?_ | refine blk_alloc ?_ _)); exact BKq.out) hb); have n4_ := Aside0.mk (below_step (by repeat (first | (with_reducible first | exact HB.out | apply below_alloc | apply pw_below_drewN | apply below_drew1 | refine below_set ?_ GEl.out | refine below_set ?_ GEs.out | refine below_set ?_ GEr.out | refine below_set ?_ GEq.out) | exact HB.out)) hb); clear BKl BKs BKr BKq HB; have BKl := n0_; have BKs := n1_; have BKr := n2_; have BKq := n3_; have HB := n4_; clear n0_ n1_ n2_ n3_ n4_ hb; have hczq_s_0 : w9.cell? ⟨gbs, 0, none⟩ = some (.int .i64 a1_0) := (blk_cell BKs.out 0).trans rfl; have hczq_s_1 : w9.cell? ⟨gbs, 1, none⟩ = some (.int .i64 a1_1) := (blk_cell BKs.out 1).trans rfl; have hfzq_s_0 := blk_frozen BKs.out 0; have hfzq_s_1 := blk_frozen BKs.out 1; have hczq_q_0 : w9.cell? ⟨gbq, 0, none⟩ = some (.int .i64 0) := (blk_cell BKq.out 0).trans rfl; have hczq_q_1 : w9.cell? ⟨gbq, 1, none⟩ = some (.int .i64 0) := (blk_cell BKq.out 1).trans rfl; have hfzq_q_0 := blk_frozen BKq.out 0; have hfzq_q_1 := blk_frozen BKq.out 1)
    refine bodyPost_ret (results_ct rfl _ _ gbq 81 #[.int .i64 0, .int .i64 0] (0, 0) _ rfl (by (with_reducible repeat (first | refine blk_drewN ?_ _ | refine blk_drew ?_ | refine blk_alloc ?_ _)); refine blk_put (cs := #[.int .i64 0, .int .i64 0]) ?_ 1 _ rfl; (with_reducible repeat (first | refine blk_drewN ?_ _ | refine blk_drew ?_ | refine blk_alloc ?_ _)); refine blk_put (cs := #[.int .i64 0, .int .i64 0]) ?_ 0 _ rfl; (with_reducible repeat (first | refine blk_drewN ?_ _ | refine blk_drew ?_ | refine blk_alloc ?_ _)); exact BKq.out) Try.underlying81 rfl (by kernel_rfl)) rfl ?_
    exact ⟨rfl, by repeat (first | (with_reducible first | exact HB.out | apply below_alloc | apply pw_below_drewN | apply below_drew1 | refine below_set ?_ GEl.out | refine below_set ?_ GEs.out | refine below_set ?_ GEr.out | refine below_set ?_ GEq.out) | exact HB.out)⟩
   | true =>
    replace H : (profile_Limits_next.l0 k lo hi a0_0 a0_1 a0_2 a1_0 a1_1 a2) = some (r1, r2, r3) := H
    have H' := Aside0.mk H
    clear H
    go_wp2_with (go_at_call 52; (with_reducible refine (profile_Limits_next_1.calls k lo a1_0 a1_1 a2 a0_0 a0_1 a0_2 true _ _ _ _ BKs.out BKr.out BKl.out AC.out).mono ?_); rintro e w9 ⟨rfl, hb⟩; have n0_ := Aside0.mk (blk_below (g := gbl) (o := .cells #[.int .i64 a0_0, .int .i64 a0_1, .int .i64 a0_2] 31 (0, 0)) (by (with_reducible repeat (first | refine blk_drewN ?_ _ | refine blk_drew ?_ | refine blk_alloc ?_ _)); exact BKl.out) hb); have n1_ := Aside0.mk (blk_below (g := gbs) (o := .cells #[.int .i64 a1_0, .int .i64 a1_1] 81 (0, 0)) (by (with_reducible repeat (first | refine blk_drewN ?_ _ | refine blk_drew ?_ | refine blk_alloc ?_ _)); exact BKs.out) hb); have n2_ := Aside0.mk (blk_below (g := gbr) (o := .cells #[.int .i64 a2] 2 (0, 0)) (by (with_reducible repeat (first | refine blk_drewN ?_ _ | refine blk_drew ?_ | refine blk_alloc ?_ _)); exact BKr.out) hb); have n3_ := Aside0.mk (blk_below (g := gbq) (o := .cells #[.int .i64 0, .int .i64 0] 81 (0, 0)) (by (with_reducible repeat (first | refine blk_drewN ?_ _ | refine blk_drew ?_ | refine blk_alloc ?_ _)); exact BKq.out) hb); have n4_ := Aside0.mk (below_step (by repeat (first | (with_reducible first | exact HB.out | apply below_alloc | apply pw_below_drewN | apply below_drew1 | refine below_set ?_ GEl.out | refine below_set ?_ GEs.out | refine below_set ?_ GEr.out | refine below_set ?_ GEq.out) | exact HB.out)) hb); clear BKl BKs BKr BKq HB; have BKl := n0_; have BKs := n1_; have BKr := n2_; have BKq := n3_; have HB := n4_; clear n0_ n1_ n2_ n3_ n4_ hb)
    clear cb AC
    go_loopg [9, 10] k (fun kq v9 v10 w' => ∃ (x9 : Int) (x10 : Int), v9 = .int .i64 x9 ∧ v10 = .int .i64 x10 ∧ Aside0 ((profile_Limits_next.l0 kq x9 x10 a0_0 a0_1 a0_2 a1_0 a1_1 a2) = some (r1, r2, r3)) ∧ Aside0 (kq ≤ k) ∧ Aside0 (w'.heap[gbl]? = some (.cells #[.int .i64 a0_0, .int .i64 a0_1, .int .i64 a0_2] 31 (0, 0))) ∧ Aside0 (w'.heap[gbs]? = some (.cells #[.int .i64 a1_0, .int .i64 a1_1] 81 (0, 0))) ∧ Aside0 (w'.heap[gbr]? = some (.cells #[.int .i64 a2] 2 (0, 0))) ∧ Aside0 (w'.heap[gbq]? = some (.cells #[.int .i64 0, .int .i64 0] 81 (0, 0))) ∧ Aside0 (Below w.heap.size w w'))
    case atStart => exact ⟨lo, hi, rfl, rfl, H', ⟨Nat.le_refl _⟩, ⟨by (with_reducible repeat (first | refine blk_drewN ?_ _ | refine blk_drew ?_ | refine blk_alloc ?_ _)); exact BKl.out⟩, ⟨by (with_reducible repeat (first | refine blk_drewN ?_ _ | refine blk_drew ?_ | refine blk_alloc ?_ _)); exact BKs.out⟩, ⟨by (with_reducible repeat (first | refine blk_drewN ?_ _ | refine blk_drew ?_ | refine blk_alloc ?_ _)); exact BKr.out⟩, ⟨by (with_reducible repeat (first | refine blk_drewN ?_ _ | refine blk_drew ?_ | refine blk_alloc ?_ _)); exact BKq.out⟩, ⟨by repeat (first | (with_reducible first | exact HB.out | apply below_alloc | apply pw_below_drewN | apply below_drew1 | refine below_set ?_ GEl.out | refine below_set ?_ GEs.out | refine below_set ?_ GEr.out | refine below_set ?_ GEq.out) | exact HB.out)⟩⟩
    case round =>
     clear H'
     obtain ⟨x9, x10, rfl, rfl, HA, HK1, BKl, BKs, BKr, BKq, HB⟩ := hrel
     cases gk with
     | zero => exact absurd HA.out (by simp [profile_Limits_next.l0])
     | succ k1 =>
      have H := HA.out
      clear HA
      simp only [profile_Limits_next.l0] at H
      by_cases c9 : x9 < x10
      · rw [if_pos c9] at H
        have cb : decide (x9 < x10) = true := decide_eq_true c9
        clear c9
        replace H := Option.bind_eq_some_iff.mp H
        obtain ⟨t3, A0, H⟩ := H
        have AC := Aside0.mk A0
        clear A0
        cases t3 with
        | false =>
         replace H : (profile_Limits_next.l0 k1 x9 (wrap64 ((wrap64 (x9 + (wrap64 (Int.tdiv (wrap64 ((wrap64 (x10 - x9)) + 1)) 2)))) - 1)) a0_0 a0_1 a0_2 a1_0 a1_1 a2) = some (r1, r2, r3) := H
         have H' := Aside0.mk H
         clear H
         go_wp2_with (go_at_call 52; (with_reducible refine (profile_Limits_next_1.calls k1 (wrap64 (x9 + (wrap64 (Int.tdiv (wrap64 ((wrap64 (x10 - x9)) + 1)) 2)))) a1_0 a1_1 a2 a0_0 a0_1 a0_2 false _ _ _ _ BKs.out BKr.out BKl.out AC.out).mono ?_); rintro e w9 ⟨rfl, hb⟩; have n0_ := Aside0.mk (blk_below (g := gbl) (o := .cells #[.int .i64 a0_0, .int .i64 a0_1, .int .i64 a0_2] 31 (0, 0)) (by (with_reducible repeat (first | refine blk_drewN ?_ _ | refine blk_drew ?_ | refine blk_alloc ?_ _)); exact BKl.out) hb); have n1_ := Aside0.mk (blk_below (g := gbs) (o := .cells #[.int .i64 a1_0, .int .i64 a1_1] 81 (0, 0)) (by (with_reducible repeat (first | refine blk_drewN ?_ _ | refine blk_drew ?_ | refine blk_alloc ?_ _)); exact BKs.out) hb); have n2_ := Aside0.mk (blk_below (g := gbr) (o := .cells #[.int .i64 a2] 2 (0, 0)) (by (with_reducible repeat (first | refine blk_drewN ?_ _ | refine blk_drew ?_ | refine blk_alloc ?_ _)); exact BKr.out) hb); have n3_ := Aside0.mk (blk_below (g := gbq) (o := .cells #[.int .i64 0, .int .i64 0] 81 (0, 0)) (by (with_reducible repeat (first | refine blk_drewN ?_ _ | refine blk_drew ?_ | refine blk_alloc ?_ _)); exact BKq.out) hb); have n4_ := Aside0.mk (below_step (by repeat (first | (with_reducible first | exact HB.out | apply below_alloc | apply pw_below_drewN | apply below_drew1 | refine below_set ?_ GEl.out | refine below_set ?_ GEs.out | refine below_set ?_ GEr.out | refine below_set ?_ GEq.out) | exact HB.out)) hb); clear BKl BKs BKr BKq HB; have BKl := n0_; have BKs := n1_; have BKr := n2_; have BKq := n3_; have HB := n4_; clear n0_ n1_ n2_ n3_ n4_ hb)
         go_roundg k1
         case measure => have := HK1.out; omega
         case rel => exact ⟨x9, (wrap64 ((wrap64 (x9 + (wrap64 (Int.tdiv (wrap64 ((wrap64 (x10 - x9)) + 1)) 2)))) - 1)), (by first | rfl | (simp; done) | (simp [*]; done)), (by first | rfl | (simp; done) | (simp [*]; done)), H', ⟨by have := HK1.out; omega⟩, ⟨by (with_reducible repeat (first | refine blk_drewN ?_ _ | refine blk_drew ?_ | refine blk_alloc ?_ _)); exact BKl.out⟩, ⟨by (with_reducible repeat (first | refine blk_drewN ?_ _ | refine blk_drew ?_ | refine blk_alloc ?_ _)); exact BKs.out⟩, ⟨by (with_reducible repeat (first | refine blk_drewN ?_ _ | refine blk_drew ?_ | refine blk_alloc ?_ _)); exact BKr.out⟩, ⟨by (with_reducible repeat (first | refine blk_drewN ?_ _ | refine blk_drew ?_ | refine blk_alloc ?_ _)); exact BKq.out⟩, ⟨by repeat (first | (with_reducible first | exact HB.out | apply below_alloc | apply pw_below_drewN | apply below_drew1 | refine below_set ?_ GEl.out | refine below_set ?_ GEs.out | refine below_set ?_ GEr.out | refine below_set ?_ GEq.out) | exact HB.out)⟩⟩
        | true =>
         replace H : (profile_Limits_next.l0 k1 (wrap64 (x9 + (wrap64 (Int.tdiv (wrap64 ((wrap64 (x10 - x9)) + 1)) 2)))) x10 a0_0 a0_1 a0_2 a1_0 a1_1 a2) = some (r1, r2, r3) := H
         have H' := Aside0.mk H
         clear H
         go_wp2_with (go_at_call 52; (with_reducible refine (profile_Limits_next_1.calls k1 (wrap64 (x9 + (wrap64 (Int.tdiv (wrap64 ((wrap64 (x10 - x9)) + 1)) 2)))) a1_0 a1_1 a2 a0_0 a0_1 a0_2 true _ _ _ _ BKs.out BKr.out BKl.out AC.out).mono ?_); rintro e w9 ⟨rfl, hb⟩; have n0_ := Aside0.mk (blk_below (g := gbl) (o := .cells #[.int .i64 a0_0, .int .i64 a0_1, .int .i64 a0_2] 31 (0, 0)) (by (with_reducible repeat (first | refine blk_drewN ?_ _ | refine blk_drew ?_ | refine blk_alloc ?_ _)); exact BKl.out) hb); have n1_ := Aside0.mk (blk_below (g := gbs) (o := .cells #[.int .i64 a1_0, .int .i64 a1_1] 81 (0, 0)) (by (with_reducible repeat (first | refine blk_drewN ?_ _ | refine blk_drew ?_ | refine blk_alloc ?_ _)); exact BKs.out) hb); have n2_ := Aside0.mk (blk_below (g := gbr) (o := .cells #[.int .i64 a2] 2 (0, 0)) (by (with_reducible repeat (first | refine blk_drewN ?_ _ | refine blk_drew ?_ | refine blk_alloc ?_ _)); exact BKr.out) hb); have n3_ := Aside0.mk (blk_below (g := gbq) (o := .cells #[.int .i64 0, .int .i64 0] 81 (0, 0)) (by (with_reducible repeat (first | refine blk_drewN ?_ _ | refine blk_drew ?_ | refine blk_alloc ?_ _)); exact BKq.out) hb); have n4_ := Aside0.mk (below_step (by repeat (first | (with_reducible first | exact HB.out | apply below_alloc | apply pw_below_drewN | apply below_drew1 | refine below_set ?_ GEl.out | refine below_set ?_ GEs.out | refine below_set ?_ GEr.out | refine below_set ?_ GEq.out) | exact HB.out)) hb); clear BKl BKs BKr BKq HB; have BKl := n0_; have BKs := n1_; have BKr := n2_; have BKq := n3_; have HB := n4_; clear n0_ n1_ n2_ n3_ n4_ hb)
         go_roundg k1
         case measure => have := HK1.out; omega
         case rel => exact ⟨(wrap64 (x9 + (wrap64 (Int.tdiv (wrap64 ((wrap64 (x10 - x9)) + 1)) 2)))), x10, (by first | rfl | (simp; done) | (simp [*]; done)), (by first | rfl | (simp; done) | (simp [*]; done)), H', ⟨by have := HK1.out; omega⟩, ⟨by (with_reducible repeat (first | refine blk_drewN ?_ _ | refine blk_drew ?_ | refine blk_alloc ?_ _)); exact BKl.out⟩, ⟨by (with_reducible repeat (first | refine blk_drewN ?_ _ | refine blk_drew ?_ | refine blk_alloc ?_ _)); exact BKs.out⟩, ⟨by (with_reducible repeat (first | refine blk_drewN ?_ _ | refine blk_drew ?_ | refine blk_alloc ?_ _)); exact BKr.out⟩, ⟨by (with_reducible repeat (first | refine blk_drewN ?_ _ | refine blk_drew ?_ | refine blk_alloc ?_ _)); exact BKq.out⟩, ⟨by repeat (first | (with_reducible first | exact HB.out | apply below_alloc | apply pw_below_drewN | apply below_drew1 | refine below_set ?_ GEl.out | refine below_set ?_ GEs.out | refine below_set ?_ GEr.out | refine below_set ?_ GEq.out) | exact HB.out)⟩⟩
      · rw [if_neg c9] at H
        have cb : decide (x9 < x10) = false := decide_eq_false c9
        clear c9
        simp only [Option.some.injEq, Prod.mk.injEq] at H
        obtain ⟨rfl, rfl, rfl⟩ := H
        have hnbl_s := NBl_s.out
        have hnbl_r := NBl_r.out
        have hnbl_q := NBl_q.out
        have hnbs_l := NBs_l.out
        have hnbs_r := NBs_r.out
        have hnbs_q := NBs_q.out
        have hnbr_l := NBr_l.out
        have hnbr_s := NBr_s.out
        have hnbr_q := NBr_q.out
        have hnbq_l := NBq_l.out
        have hnbq_s := NBq_s.out
        have hnbq_r := NBq_r.out
        have hczq_s_0 : wr.cell? ⟨gbs, 0, none⟩ = some (.int .i64 a1_0) := (blk_cell BKs.out 0).trans rfl
        have hczq_s_1 : wr.cell? ⟨gbs, 1, none⟩ = some (.int .i64 a1_1) := (blk_cell BKs.out 1).trans rfl
        have hfzq_s_0 := blk_frozen BKs.out 0
        have hfzq_s_1 := blk_frozen BKs.out 1
        have hczq_q_0 : wr.cell? ⟨gbq, 0, none⟩ = some (.int .i64 0) := (blk_cell BKq.out 0).trans rfl
        have hczq_q_1 : wr.cell? ⟨gbq, 1, none⟩ = some (.int .i64 0) := (blk_cell BKq.out 1).trans rfl
        have hfzq_q_0 := blk_frozen BKq.out 0
        have hfzq_q_1 := blk_frozen BKq.out 1
        go_wp2
        refine bodyPost_ret (results_ct rfl _ _ gbq 81 #[.int .i64 (wrap64 (a1_0 + x9)), .int .i64 x9] (0, 0) _ rfl (by (with_reducible repeat (first | refine blk_drewN ?_ _ | refine blk_drew ?_ | refine blk_alloc ?_ _)); refine blk_put (cs := #[.int .i64 (wrap64 (a1_0 + x9)), .int .i64 0]) ?_ 1 _ rfl; (with_reducible repeat (first | refine blk_drewN ?_ _ | refine blk_drew ?_ | refine blk_alloc ?_ _)); refine blk_put (cs := #[.int .i64 0, .int .i64 0]) ?_ 0 _ rfl; (with_reducible repeat (first | refine blk_drewN ?_ _ | refine blk_drew ?_ | refine blk_alloc ?_ _)); exact BKq.out) Try.underlying81 rfl (by kernel_rfl)) rfl ?_
        exact ⟨rfl, by repeat (first | (with_reducible first | exact HB.out | apply below_alloc | apply pw_below_drewN | apply below_drew1 | refine below_set ?_ GEl.out | refine below_set ?_ GEs.out | refine below_set ?_ GEr.out | refine below_set ?_ GEq.out) | exact HB.out)⟩
end Go.Proofs.Ytmaegpblaihepaa.F
