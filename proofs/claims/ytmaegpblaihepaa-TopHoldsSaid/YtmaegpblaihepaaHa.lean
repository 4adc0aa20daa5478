/- The closure of next, by a contract: what it tells, for every three variables that it has captured. -/
import Derived.Test.YtmaegpblaihepaaWc
import Derived.Test.YtmaegpblaihepaaFx37
import Derived.Test.YtmaegpblaihepaaFx39
namespace Go.Proofs.Ytmaegpblaihepaa.F
open Go.RowKit Go.Proofs.YtmaegpblaihepaaW.PrintWords Go.Proofs.YtmaegpblaihepaaW.PrintLast Go.Proofs.YtmaegpblaihepaaW.PrintMore
attribute [local go_sem] max2_int min2_int max_two min_two max_three min_three max_four min_four
set_option linter.unusedVariables false
set_option linter.unusedSimpArgs false
def profile_Limits_next_1.f (k : Nat) (b sv sa rest L1 L2 L3 : Int) : Option Bool := if wrap64 (sv + b) ≤ rest then (profile_Limits_safe.f k L1 L2 L3 (wrap64 (sv + b)) b).bind fun t1 => (if t1 = true then (profile_Limits_distance.f k L1 L2 L3 (wrap64 (sv + b)) b).bind fun t2 => some (decide (t2 ≤ wrap64 (rest - wrap64 (sv + b)))) else some false) else some false
theorem profile_Limits_next_1.mono : ∀ b sv sa rest L1 L2 L3 k, LeO (profile_Limits_next_1.f k b sv sa rest L1 L2 L3) (profile_Limits_next_1.f (k + 1) b sv sa rest L1 L2 L3) := by
 intro b sv sa rest L1 L2 L3 k
 unfold profile_Limits_next_1.f
 repeat' first
   | (with_reducible exact profile_Limits_safe.mono _ _ _ _ _ _)
   | (with_reducible exact profile_Limits_distance.mono _ _ _ _ _ _)
   | (with_reducible exact LeO.refl _)
   | (with_reducible exact LeO.none _)
   | (with_reducible refine LeO.ite ?_ ?_)
   | (with_reducible refine LeO.bind ?_ (fun _ => ?_))
   | exact LeO.refl _
   | refine LeO.ite ?_ ?_
   | refine LeO.bind ?_ (fun _ => ?_)
def profile_Limits_next_1.T2 : Bool × List (List Nat × List Nat) := (true, [([], []), ([0], [0]), ([], []), ([1, 2], [1, 2]), ([3], [3]), ([4], [4]), ([4], [4]), ([5, 6, 4, 4], [4, 5, 6]), ([4, 7], [4, 7]), ([8, 7], [8]), ([9], [9]), ([9], [9]), ([10, 11, 9, 9], [9, 10, 11]), ([9], [9]), ([9], [9]), ([14, 9], [9, 14]), ([13, 15, 9], [9, 13, 15]), ([12, 16, 9], [9, 12, 16]), ([9, 17], [9, 17]), ([18, 12, 0, 1, 2, 3, 4, 5, 6, 7, 8, 9, 10, 11, 12, 13, 14, 15, 16, 17, 18], [18])])
def profile_Limits_next_1.B2 : List Nat := [0, 1, 0, 7, 15, 31, 31, 127, 255, 511, 1023, 1023, 4095, 1023, 1023, 17407, 58367, 131071, 262143, 524287]
theorem profile_Limits_next_1.tab2 : rtab .any (opsOf Try.f52 2) = profile_Limits_next_1.T2 := by kernel_rfl
theorem profile_Limits_next_1.bits2 : waitsOk profile_Limits_next_1.T2.2 profile_Limits_next_1.B2 = true := by kernel_rfl
set_option maxRecDepth 100000 in
set_option maxHeartbeats 8000000 in
theorem profile_Limits_next_1.no (k : Nat) (b sv sa rest L1 L2 L3 : Int)  (gbs gbr gbl : Nat) (w : World) (Hs : w.heap[gbs]? = some (.cells #[.int .i64 sv, .int .i64 sa] 81 (0, 0))) (Hr : w.heap[gbr]? = some (.cells #[.int .i64 rest] 2 (0, 0))) (Hl : w.heap[gbl]? = some (.cells #[.int .i64 L1, .int .i64 L2, .int .i64 L3] 31 (0, 0))) (c : ¬ (wrap64 (sv + b) ≤ rest)) :
 Calls Try.prog 52 #[.int .i64 b, .pointer (some ⟨gbs, 0, none⟩), .pointer (some ⟨gbr, 0, none⟩), .pointer (some ⟨gbl, 0, none⟩)] w fun e w' => e = .returned (.bool false) ∧ Below w.heap.size w w' := by
 have hu31 := Try.underlying31
 have hu81 := Try.underlying81
 have HB := Aside0.mk (Below.refl w.heap.size w)
 have BKs := Aside0.mk Hs
 have BKr := Aside0.mk Hr
 have BKl := Aside0.mk Hl
 clear Hs Hr Hl
 have cb : decide (wrap64 (sv + b) ≤ rest) = false := decide_eq_false c
 clear c
 have hcz0_0 : w.cell? ⟨gbs, 0, none⟩ = some (.int .i64 sv) := (blk_cell BKs.out 0).trans rfl
 go_enter Try.func52, Try.ntmps52
 go_wp2_with (first | ((with_reducible refine gate_dst (N := 6) rfl ?_); refine box_event ?hg (N := 6) ?hd (cs := #[.int .i64 0, .int .i64 0]) (t := 81) ?hr ?_; (case hd => rfl); (case hg => rfl); (case hr => first | (go_simp; done) | (go_simp; rfl)); intro gbt hg wz1 hbox hb; have n0_ := Aside0.mk (blk_below (g := gbs) (o := .cells #[.int .i64 sv, .int .i64 sa] 81 (0, 0)) (by (with_reducible repeat (first | refine blk_drewN ?_ _ | refine blk_drew ?_ | refine blk_alloc ?_ _)); exact BKs.out) hb); have n1_ := Aside0.mk (blk_below (g := gbr) (o := .cells #[.int .i64 rest] 2 (0, 0)) (by (with_reducible repeat (first | refine blk_drewN ?_ _ | refine blk_drew ?_ | refine blk_alloc ?_ _)); exact BKr.out) hb); have n2_ := Aside0.mk (blk_below (g := gbl) (o := .cells #[.int .i64 L1, .int .i64 L2, .int .i64 L3] 31 (0, 0)) (by (with_reducible repeat (first | refine blk_drewN ?_ _ | refine blk_drew ?_ | refine blk_alloc ?_ _)); exact BKl.out) hb); have n3_ := Aside0.mk (below_step (by repeat (first | (with_reducible first | exact HB.out | apply below_alloc | apply pw_below_drewN | apply below_drew1) | exact HB.out)) hb); have n4_ := Aside0.mk (hbox); have n5_ := Aside0.mk ((by rw [hg]; exact (below_size (by repeat (first | (with_reducible first | exact HB.out | apply below_alloc | apply pw_below_drewN | apply below_drew1) | exact HB.out)))) : w.heap.size ≤ gbt); have n6_ := Aside0.mk ((by rw [hg]; exact Nat.ne_of_lt (blk_lt (g := gbs) (o := .cells #[.int .i64 sv, .int .i64 sa] 81 (0, 0)) (by (with_reducible repeat (first | refine blk_drewN ?_ _ | refine blk_drew ?_ | refine blk_alloc ?_ _)); exact BKs.out))) : gbs ≠ gbt); have n7_ := Aside0.mk ((by rw [hg]; exact Nat.ne_of_gt (blk_lt (g := gbs) (o := .cells #[.int .i64 sv, .int .i64 sa] 81 (0, 0)) (by (with_reducible repeat (first | refine blk_drewN ?_ _ | refine blk_drew ?_ | refine blk_alloc ?_ _)); exact BKs.out))) : gbt ≠ gbs); have n8_ := Aside0.mk ((by rw [hg]; exact Nat.ne_of_lt (blk_lt (g := gbr) (o := .cells #[.int .i64 rest] 2 (0, 0)) (by (with_reducible repeat (first | refine blk_drewN ?_ _ | refine blk_drew ?_ | refine blk_alloc ?_ _)); exact BKr.out))) : gbr ≠ gbt); have n9_ := Aside0.mk ((by rw [hg]; exact Nat.ne_of_gt (blk_lt (g := gbr) (o := .cells #[.int .i64 rest] 2 (0, 0)) (by (with_reducible repeat (first | refine blk_drewN ?_ _ | refine blk_drew ?_ | refine blk_alloc ?_ _)); exact BKr.out))) : gbt ≠ gbr); have n10_ := Aside0.mk ((by rw [hg]; exact Nat.ne_of_lt (blk_lt (g := gbl) (o := .cells #[.int .i64 L1, .int .i64 L2, .int .i64 L3] 31 (0, 0)) (by (with_reducible repeat (first | refine blk_drewN ?_ _ | refine blk_drew ?_ | refine blk_alloc ?_ _)); exact BKl.out))) : gbl ≠ gbt); have n11_ := Aside0.mk ((by rw [hg]; exact Nat.ne_of_gt (blk_lt (g := gbl) (o := .cells #[.int .i64 L1, .int .i64 L2, .int .i64 L3] 31 (0, 0)) (by (with_reducible repeat (first | refine blk_drewN ?_ _ | refine blk_drew ?_ | refine blk_alloc ?_ _)); exact BKl.out))) : gbt ≠ gbl); clear BKs BKr BKl HB; have BKs := n0_; have BKr := n1_; have BKl := n2_; have HB := n3_; have BKt := n4_; have GEt := n5_; have NBs_t := n6_; have NBt_s := n7_; have NBr_t := n8_; have NBt_r := n9_; have NBl_t := n10_; have NBt_l := n11_; clear n0_ n1_ n2_ n3_ n4_ n5_ n6_ n7_ n8_ n9_ n10_ n11_; clear hb hbox hg; have hcz9_t_0 : wz1.cell? ⟨gbt, 0, none⟩ = some (.int .i64 0) := (blk_cell BKt.out 0).trans rfl; have hcz9_t_1 : wz1.cell? ⟨gbt, 1, none⟩ = some (.int .i64 0) := (blk_cell BKt.out 1).trans rfl; have hfz9_t_0 := blk_frozen BKt.out 0; have hfz9_t_1 := blk_frozen BKt.out 1))
 clear hcz0_0
 clear hcz9_t_0 hcz9_t_1 hfz9_t_0 hfz9_t_1
 refine start_ (n := 20) (S := fun w' => Aside0 (w'.heap[gbs]? = some (.cells #[.int .i64 sv, .int .i64 sa] 81 (0, 0))) ∧ Aside0 (w'.heap[gbr]? = some (.cells #[.int .i64 rest] 2 (0, 0))) ∧ Aside0 (w'.heap[gbl]? = some (.cells #[.int .i64 L1, .int .i64 L2, .int .i64 L3] 31 (0, 0))) ∧ Aside0 (w'.heap[gbt]? = some (.cells #[.int .i64 (wrap64 (sv + b)), .int .i64 b] 81 (0, 0))) ∧ Aside0 (Below w.heap.size w w') ∧ w'.cell? ⟨gbs, 0, none⟩ = some (.int .i64 sv) ∧ w'.cell? ⟨gbs, 1, none⟩ = some (.int .i64 sa) ∧ w'.cell? ⟨gbr, 0, none⟩ = some (.int .i64 rest) ∧ w'.cell? ⟨gbl, 0, none⟩ = some (.int .i64 L1) ∧ w'.cell? ⟨gbl, 1, none⟩ = some (.int .i64 L2) ∧ w'.cell? ⟨gbl, 2, none⟩ = some (.int .i64 L3) ∧ w'.cell? ⟨gbt, 0, none⟩ = some (.int .i64 (wrap64 (sv + b))) ∧ w'.cell? ⟨gbt, 1, none⟩ = some (.int .i64 b)) (ds := []) #[false, false, false, false, false, false, false, false, false, false, false, false, false, false, false, false, false, false, false, false] (by kernel_rfl) rfl rfl ?hS_ (fun hHeld => ?_)
 rotate_left
 refine with_tabW profile_Limits_next_1.tab2 profile_Limits_next_1.bits2 (fun HT_ HW_ => ?_)
 rotate_left
 · exact ⟨⟨by (with_reducible repeat (first | refine blk_drewN ?_ _ | refine blk_drew ?_ | refine blk_alloc ?_ _)); refine blk_far ?_ NBs_t.out _; (with_reducible repeat (first | refine blk_drewN ?_ _ | refine blk_drew ?_ | refine blk_alloc ?_ _)); refine blk_far ?_ NBs_t.out _; (with_reducible repeat (first | refine blk_drewN ?_ _ | refine blk_drew ?_ | refine blk_alloc ?_ _)); exact BKs.out⟩, ⟨by (with_reducible repeat (first | refine blk_drewN ?_ _ | refine blk_drew ?_ | refine blk_alloc ?_ _)); refine blk_far ?_ NBr_t.out _; (with_reducible repeat (first | refine blk_drewN ?_ _ | refine blk_drew ?_ | refine blk_alloc ?_ _)); refine blk_far ?_ NBr_t.out _; (with_reducible repeat (first | refine blk_drewN ?_ _ | refine blk_drew ?_ | refine blk_alloc ?_ _)); exact BKr.out⟩, ⟨by (with_reducible repeat (first | refine blk_drewN ?_ _ | refine blk_drew ?_ | refine blk_alloc ?_ _)); refine blk_far ?_ NBl_t.out _; (with_reducible repeat (first | refine blk_drewN ?_ _ | refine blk_drew ?_ | refine blk_alloc ?_ _)); refine blk_far ?_ NBl_t.out _; (with_reducible repeat (first | refine blk_drewN ?_ _ | refine blk_drew ?_ | refine blk_alloc ?_ _)); exact BKl.out⟩, ⟨by (with_reducible repeat (first | refine blk_drewN ?_ _ | refine blk_drew ?_ | refine blk_alloc ?_ _)); refine blk_put (cs := #[.int .i64 (wrap64 (sv + b)), .int .i64 0]) ?_ 1 _ rfl; (with_reducible repeat (first | refine blk_drewN ?_ _ | refine blk_drew ?_ | refine blk_alloc ?_ _)); refine blk_put (cs := #[.int .i64 0, .int .i64 0]) ?_ 0 _ rfl; (with_reducible repeat (first | refine blk_drewN ?_ _ | refine blk_drew ?_ | refine blk_alloc ?_ _)); exact BKt.out⟩, ⟨by repeat (first | (with_reducible first | exact HB.out | apply below_alloc | apply pw_below_drewN | apply below_drew1 | refine below_set ?_ GEt.out) | exact HB.out)⟩, (blk_cell (t := 81) (cs := #[.int .i64 sv, .int .i64 sa]) (by (with_reducible repeat (first | refine blk_drewN ?_ _ | refine blk_drew ?_ | refine blk_alloc ?_ _)); refine blk_far ?_ NBs_t.out _; (with_reducible repeat (first | refine blk_drewN ?_ _ | refine blk_drew ?_ | refine blk_alloc ?_ _)); refine blk_far ?_ NBs_t.out _; (with_reducible repeat (first | refine blk_drewN ?_ _ | refine blk_drew ?_ | refine blk_alloc ?_ _)); exact BKs.out) 0).trans rfl, (blk_cell (t := 81) (cs := #[.int .i64 sv, .int .i64 sa]) (by (with_reducible repeat (first | refine blk_drewN ?_ _ | refine blk_drew ?_ | refine blk_alloc ?_ _)); refine blk_far ?_ NBs_t.out _; (with_reducible repeat (first | refine blk_drewN ?_ _ | refine blk_drew ?_ | refine blk_alloc ?_ _)); refine blk_far ?_ NBs_t.out _; (with_reducible repeat (first | refine blk_drewN ?_ _ | refine blk_drew ?_ | refine blk_alloc ?_ _)); exact BKs.out) 1).trans rfl, (blk_cell (t := 2) (cs := #[.int .i64 rest]) (by (with_reducible repeat (first | refine blk_drewN ?_ _ | refine blk_drew ?_ | refine blk_alloc ?_ _)); refine blk_far ?_ NBr_t.out _; (with_reducible repeat (first | refine blk_drewN ?_ _ | refine blk_drew ?_ | refine blk_alloc ?_ _)); refine blk_far ?_ NBr_t.out _; (with_reducible repeat (first | refine blk_drewN ?_ _ | refine blk_drew ?_ | refine blk_alloc ?_ _)); exact BKr.out) 0).trans rfl, (blk_cell (t := 31) (cs := #[.int .i64 L1, .int .i64 L2, .int .i64 L3]) (by (with_reducible repeat (first | refine blk_drewN ?_ _ | refine blk_drew ?_ | refine blk_alloc ?_ _)); refine blk_far ?_ NBl_t.out _; (with_reducible repeat (first | refine blk_drewN ?_ _ | refine blk_drew ?_ | refine blk_alloc ?_ _)); refine blk_far ?_ NBl_t.out _; (with_reducible repeat (first | refine blk_drewN ?_ _ | refine blk_drew ?_ | refine blk_alloc ?_ _)); exact BKl.out) 0).trans rfl, (blk_cell (t := 31) (cs := #[.int .i64 L1, .int .i64 L2, .int .i64 L3]) (by (with_reducible repeat (first | refine blk_drewN ?_ _ | refine blk_drew ?_ | refine blk_alloc ?_ _)); refine blk_far ?_ NBl_t.out _; (with_reducible repeat (first | refine blk_drewN ?_ _ | refine blk_drew ?_ | refine blk_alloc ?_ _)); refine blk_far ?_ NBl_t.out _; (with_reducible repeat (first | refine blk_drewN ?_ _ | refine blk_drew ?_ | refine blk_alloc ?_ _)); exact BKl.out) 1).trans rfl, (blk_cell (t := 31) (cs := #[.int .i64 L1, .int .i64 L2, .int .i64 L3]) (by (with_reducible repeat (first | refine blk_drewN ?_ _ | refine blk_drew ?_ | refine blk_alloc ?_ _)); refine blk_far ?_ NBl_t.out _; (with_reducible repeat (first | refine blk_drewN ?_ _ | refine blk_drew ?_ | refine blk_alloc ?_ _)); refine blk_far ?_ NBl_t.out _; (with_reducible repeat (first | refine blk_drewN ?_ _ | refine blk_drew ?_ | refine blk_alloc ?_ _)); exact BKl.out) 2).trans rfl, (blk_cell (t := 81) (cs := #[.int .i64 (wrap64 (sv + b)), .int .i64 b]) (by (with_reducible repeat (first | refine blk_drewN ?_ _ | refine blk_drew ?_ | refine blk_alloc ?_ _)); refine blk_put (cs := #[.int .i64 (wrap64 (sv + b)), .int .i64 0]) ?_ 1 _ rfl; (with_reducible repeat (first | refine blk_drewN ?_ _ | refine blk_drew ?_ | refine blk_alloc ?_ _)); refine blk_put (cs := #[.int .i64 0, .int .i64 0]) ?_ 0 _ rfl; (with_reducible repeat (first | refine blk_drewN ?_ _ | refine blk_drew ?_ | refine blk_alloc ?_ _)); exact BKt.out) 0).trans rfl, (blk_cell (t := 81) (cs := #[.int .i64 (wrap64 (sv + b)), .int .i64 b]) (by (with_reducible repeat (first | refine blk_drewN ?_ _ | refine blk_drew ?_ | refine blk_alloc ?_ _)); refine blk_put (cs := #[.int .i64 (wrap64 (sv + b)), .int .i64 0]) ?_ 1 _ rfl; (with_reducible repeat (first | refine blk_drewN ?_ _ | refine blk_drew ?_ | refine blk_alloc ?_ _)); refine blk_put (cs := #[.int .i64 0, .int .i64 0]) ?_ 0 _ rfl; (with_reducible repeat (first | refine blk_drewN ?_ _ | refine blk_drew ?_ | refine blk_alloc ?_ _)); exact BKt.out) 1).trans rfl⟩
 generalize World.drew _ = wz2 at hHeld ⊢
 refine pu 0 13 (bzz 20 1) (any_of HT_.out (by kernel_rfl)) ?_
 refine ta 1 14 (bzz 20 3) (take_ofW HT_.out HW_.out (by kernel_rfl)) hHeld ?_
 refine ta 2 15 (bzz 20 7) (take_ofW HT_.out HW_.out (by kernel_rfl)) hHeld ?_
 refine pu 3 16 (bzz 20 15) (any_of HT_.out (by kernel_rfl)) ?_
 refine pu 4 17 (bzz 20 31) (any_of HT_.out (by kernel_rfl)) ?_
 refine po 5 18 (bzz 20 63) (any_of HT_.out (by kernel_rfl)) ?_
 refine po 6 19 (bzz 20 127) (any_of HT_.out (by kernel_rfl)) ?_
 refine po 7 20 (bzz 20 255) (any_of HT_.out (by kernel_rfl)) ?_
 refine pu 8 21 (bzz 20 511) (any_of HT_.out (by kernel_rfl)) ?_
 refine pu 9 22 (bzz 20 1023) (any_of HT_.out (by kernel_rfl)) ?_
 refine po 10 23 (bzz 20 2047) (any_of HT_.out (by kernel_rfl)) ?_
 refine po 11 24 (bzz 20 4095) (any_of HT_.out (by kernel_rfl)) ?_
 refine po 12 25 (bzz 20 8191) (any_of HT_.out (by kernel_rfl)) ?_
 refine po 13 26 (bzz 20 16383) (any_of HT_.out (by kernel_rfl)) ?_
 refine po 14 27 (bzz 20 32767) (any_of HT_.out (by kernel_rfl)) ?_
 refine po 15 28 (bzz 20 65535) (any_of HT_.out (by kernel_rfl)) ?_
 refine po 16 29 (bzz 20 131071) (any_of HT_.out (by kernel_rfl)) ?_
 refine po 17 30 (bzz 20 262143) (any_of HT_.out (by kernel_rfl)) ?_
 refine pu 18 31 (bzz 20 524287) (any_of HT_.out (by kernel_rfl)) ?_
 refine pu 19 5 (bzz 20 1048575) (any_of HT_.out (by kernel_rfl)) ?_
 refine done_ (done_of HT_.out (by kernel_rfl)) ?_
 try clear HT_ HW_
 have hAll_ := hHeld
 clear hHeld
 clear BKs BKr BKl BKt HB
 have BKs := hAll_.1
 have BKr := hAll_.2.1
 have BKl := hAll_.2.2.1
 have BKt := hAll_.2.2.2.1
 have HB := hAll_.2.2.2.2.1
 clear hAll_
 try go_wp2
 go_ret
 exact ⟨rfl, HB.out⟩
set_option maxRecDepth 100000 in
set_option maxHeartbeats 8000000 in
theorem profile_Limits_next_1.unfit (k : Nat) (b sv sa rest L1 L2 L3 : Int)  (gbs gbr gbl : Nat) (w : World) (Hs : w.heap[gbs]? = some (.cells #[.int .i64 sv, .int .i64 sa] 81 (0, 0))) (Hr : w.heap[gbr]? = some (.cells #[.int .i64 rest] 2 (0, 0))) (Hl : w.heap[gbl]? = some (.cells #[.int .i64 L1, .int .i64 L2, .int .i64 L3] 31 (0, 0))) (c : wrap64 (sv + b) ≤ rest) (h1 : profile_Limits_safe.f k L1 L2 L3 (wrap64 (sv + b)) b = some false) :
 Calls Try.prog 52 #[.int .i64 b, .pointer (some ⟨gbs, 0, none⟩), .pointer (some ⟨gbr, 0, none⟩), .pointer (some ⟨gbl, 0, none⟩)] w fun e w' => e = .returned (.bool false) ∧ Below w.heap.size w w' := by
 have hu31 := Try.underlying31
 have hu81 := Try.underlying81
 have HB := Aside0.mk (Below.refl w.heap.size w)
 have BKs := Aside0.mk Hs
 have BKr := Aside0.mk Hr
 have BKl := Aside0.mk Hl
 clear Hs Hr Hl
 have cb : decide (wrap64 (sv + b) ≤ rest) = true := decide_eq_true c
 clear c
 have A1 := Aside0.mk h1
 clear h1
 have hcz0_0 : w.cell? ⟨gbs, 0, none⟩ = some (.int .i64 sv) := (blk_cell BKs.out 0).trans rfl
 go_enter Try.func52, Try.ntmps52
 go_wp2_with (first | ((with_reducible refine gate_dst (N := 6) rfl ?_); refine box_event ?hg (N := 6) ?hd (cs := #[.int .i64 0, .int .i64 0]) (t := 81) ?hr ?_; (case hd => rfl); (case hg => rfl); (case hr => first | (go_simp; done) | (go_simp; rfl)); intro gbt hg wz1 hbox hb; have n0_ := Aside0.mk (blk_below (g := gbs) (o := .cells #[.int .i64 sv, .int .i64 sa] 81 (0, 0)) (by (with_reducible repeat (first | refine blk_drewN ?_ _ | refine blk_drew ?_ | refine blk_alloc ?_ _)); exact BKs.out) hb); have n1_ := Aside0.mk (blk_below (g := gbr) (o := .cells #[.int .i64 rest] 2 (0, 0)) (by (with_reducible repeat (first | refine blk_drewN ?_ _ | refine blk_drew ?_ | refine blk_alloc ?_ _)); exact BKr.out) hb); have n2_ := Aside0.mk (blk_below (g := gbl) (o := .cells #[.int .i64 L1, .int .i64 L2, .int .i64 L3] 31 (0, 0)) (by (with_reducible repeat (first | refine blk_drewN ?_ _ | refine blk_drew ?_ | refine blk_alloc ?_ _)); exact BKl.out) hb); have n3_ := Aside0.mk (below_step (by repeat (first | (with_reducible first | exact HB.out | apply below_alloc | apply pw_below_drewN | apply below_drew1) | exact HB.out)) hb); have n4_ := Aside0.mk (hbox); have n5_ := Aside0.mk ((by rw [hg]; exact (below_size (by repeat (first | (with_reducible first | exact HB.out | apply below_alloc | apply pw_below_drewN | apply below_drew1) | exact HB.out)))) : w.heap.size ≤ gbt); have n6_ := Aside0.mk ((by rw [hg]; exact Nat.ne_of_lt (blk_lt (g := gbs) (o := .cells #[.int .i64 sv, .int .i64 sa] 81 (0, 0)) (by (with_reducible repeat (first | refine blk_drewN ?_ _ | refine blk_drew ?_ | refine blk_alloc ?_ _)); exact BKs.out))) : gbs ≠ gbt); have n7_ := Aside0.mk ((by rw [hg]; exact Nat.ne_of_gt (blk_lt (g := gbs) (o := .cells #[.int .i64 sv, .int .i64 sa] 81 (0, 0)) (by (with_reducible repeat (first | refine blk_drewN ?_ _ | refine blk_drew ?_ | refine blk_alloc ?_ _)); exact BKs.out))) : gbt ≠ gbs); have n8_ := Aside0.mk ((by rw [hg]; exact Nat.ne_of_lt (blk_lt (g := gbr) (o := .cells #[.int .i64 rest] 2 (0, 0)) (by (with_reducible repeat (first | refine blk_drewN ?_ _ | refine blk_drew ?_ | refine blk_alloc ?_ _)); exact BKr.out))) : gbr ≠ gbt); have n9_ := Aside0.mk ((by rw [hg]; exact Nat.ne_of_gt (blk_lt (g := gbr) (o := .cells #[.int .i64 rest] 2 (0, 0)) (by (with_reducible repeat (first | refine blk_drewN ?_ _ | refine blk_drew ?_ | refine blk_alloc ?_ _)); exact BKr.out))) : gbt ≠ gbr); have n10_ := Aside0.mk ((by rw [hg]; exact Nat.ne_of_lt (blk_lt (g := gbl) (o := .cells #[.int .i64 L1, .int .i64 L2, .int .i64 L3] 31 (0, 0)) (by (with_reducible repeat (first | refine blk_drewN ?_ _ | refine blk_drew ?_ | refine blk_alloc ?_ _)); exact BKl.out))) : gbl ≠ gbt); have n11_ := Aside0.mk ((by rw [hg]; exact Nat.ne_of_gt (blk_lt (g := gbl) (o := .cells #[.int .i64 L1, .int .i64 L2, .int .i64 L3] 31 (0, 0)) (by (with_reducible repeat (first | refine blk_drewN ?_ _ | refine blk_drew ?_ | refine blk_alloc ?_ _)); exact BKl.out))) : gbt ≠ gbl); clear BKs BKr BKl HB; have BKs := n0_; have BKr := n1_; have BKl := n2_; have HB := n3_; have BKt := n4_; have GEt := n5_; have NBs_t := n6_; have NBt_s := n7_; have NBr_t := n8_; have NBt_r := n9_; have NBl_t := n10_; have NBt_l := n11_; clear n0_ n1_ n2_ n3_ n4_ n5_ n6_ n7_ n8_ n9_ n10_ n11_; clear hb hbox hg; have hcz9_t_0 : wz1.cell? ⟨gbt, 0, none⟩ = some (.int .i64 0) := (blk_cell BKt.out 0).trans rfl; have hcz9_t_1 : wz1.cell? ⟨gbt, 1, none⟩ = some (.int .i64 0) := (blk_cell BKt.out 1).trans rfl; have hfz9_t_0 := blk_frozen BKt.out 0; have hfz9_t_1 := blk_frozen BKt.out 1))
 clear hcz0_0
 clear hcz9_t_0 hcz9_t_1 hfz9_t_0 hfz9_t_1
 refine start_ (n := 20) (S := fun w' => Aside0 (w'.heap[gbs]? = some (.cells #[.int .i64 sv, .int .i64 sa] 81 (0, 0))) ∧ Aside0 (w'.heap[gbr]? = some (.cells #[.int .i64 rest] 2 (0, 0))) ∧ Aside0 (w'.heap[gbl]? = some (.cells #[.int .i64 L1, .int .i64 L2, .int .i64 L3] 31 (0, 0))) ∧ Aside0 (w'.heap[gbt]? = some (.cells #[.int .i64 (wrap64 (sv + b)), .int .i64 b] 81 (0, 0))) ∧ Aside0 (Below w.heap.size w w') ∧ w'.cell? ⟨gbs, 0, none⟩ = some (.int .i64 sv) ∧ w'.cell? ⟨gbs, 1, none⟩ = some (.int .i64 sa) ∧ w'.cell? ⟨gbr, 0, none⟩ = some (.int .i64 rest) ∧ w'.cell? ⟨gbl, 0, none⟩ = some (.int .i64 L1) ∧ w'.cell? ⟨gbl, 1, none⟩ = some (.int .i64 L2) ∧ w'.cell? ⟨gbl, 2, none⟩ = some (.int .i64 L3) ∧ w'.cell? ⟨gbt, 0, none⟩ = some (.int .i64 (wrap64 (sv + b))) ∧ w'.cell? ⟨gbt, 1, none⟩ = some (.int .i64 b)) (ds := []) #[false, false, false, false, false, false, false, false, false, false, false, false, false, false, false, false, false, false, false, false] (by kernel_rfl) rfl rfl ?hS_ (fun hHeld => ?_)
 rotate_left
 refine with_tabW profile_Limits_next_1.tab2 profile_Limits_next_1.bits2 (fun HT_ HW_ => ?_)
 rotate_left
 · exact ⟨⟨by (with_reducible repeat (first | refine blk_drewN ?_ _ | refine blk_drew ?_ | refine blk_alloc ?_ _)); refine blk_far ?_ NBs_t.out _; (with_reducible repeat (first | refine blk_drewN ?_ _ | refine blk_drew ?_ | refine blk_alloc ?_ _)); refine blk_far ?_ NBs_t.out _; (with_reducible repeat (first | refine blk_drewN ?_ _ | refine blk_drew ?_ | refine blk_alloc ?_ _)); exact BKs.out⟩, ⟨by (with_reducible repeat (first | refine blk_drewN ?_ _ | refine blk_drew ?_ | refine blk_alloc ?_ _)); refine blk_far ?_ NBr_t.out _; (with_reducible repeat (first | refine blk_drewN ?_ _ | refine blk_drew ?_ | refine blk_alloc ?_ _)); refine blk_far ?_ NBr_t.out _; (with_reducible repeat (first | refine blk_drewN ?_ _ | refine blk_drew ?_ | refine blk_alloc ?_ _)); exact BKr.out⟩, ⟨by (with_reducible repeat (first | refine blk_drewN ?_ _ | refine blk_drew ?_ | refine blk_alloc ?_ _)); refine blk_far ?_ NBl_t.out _; (with_reducible repeat (first | refine blk_drewN ?_ _ | refine blk_drew ?_ | refine blk_alloc ?_ _)); refine blk_far ?_ NBl_t.out _; (with_reducible repeat (first | refine blk_drewN ?_ _ | refine blk_drew ?_ | refine blk_alloc ?_ _)); exact BKl.out⟩, ⟨by (with_reducible repeat (first | refine blk_drewN ?_ _ | refine blk_drew ?_ | refine blk_alloc ?_ _)); refine blk_put (cs := #[.int .i64 (wrap64 (sv + b)), .int .i64 0]) ?_ 1 _ rfl; (with_reducible repeat (first | refine blk_drewN ?_ _ | refine blk_drew ?_ | refine blk_alloc ?_ _)); refine blk_put (cs := #[.int .i64 0, .int .i64 0]) ?_ 0 _ rfl; (with_reducible repeat (first | refine blk_drewN ?_ _ | refine blk_drew ?_ | refine blk_alloc ?_ _)); exact BKt.out⟩, ⟨by repeat (first | (with_reducible first | exact HB.out | apply below_alloc | apply pw_below_drewN | apply below_drew1 | refine below_set ?_ GEt.out) | exact HB.out)⟩, (blk_cell (t := 81) (cs := #[.int .i64 sv, .int .i64 sa]) (by (with_reducible repeat (first | refine blk_drewN ?_ _ | refine blk_drew ?_ | refine blk_alloc ?_ _)); refine blk_far ?_ NBs_t.out _; (with_reducible repeat (first | refine blk_drewN ?_ _ | refine blk_drew ?_ | refine blk_alloc ?_ _)); refine blk_far ?_ NBs_t.out _; (with_reducible repeat (first | refine blk_drewN ?_ _ | refine blk_drew ?_ | refine blk_alloc ?_ _)); exact BKs.out) 0).trans rfl, (blk_cell (t := 81) (cs := #[.int .i64 sv, .int .i64 sa]) (by (with_reducible repeat (first | refine blk_drewN ?_ _ | refine blk_drew ?_ | refine blk_alloc ?_ _)); refine blk_far ?_ NBs_t.out _; (with_reducible repeat (first | refine blk_drewN ?_ _ | refine blk_drew ?_ | refine blk_alloc ?_ _)); refine blk_far ?_ NBs_t.out _; (with_reducible repeat (first | refine blk_drewN ?_ _ | refine blk_drew ?_ | refine blk_alloc ?_ _)); exact BKs.out) 1).trans rfl, (blk_cell (t := 2) (cs := #[.int .i64 rest]) (by (with_reducible repeat (first | refine blk_drewN ?_ _ | refine blk_drew ?_ | refine blk_alloc ?_ _)); refine blk_far ?_ NBr_t.out _; (with_reducible repeat (first | refine blk_drewN ?_ _ | refine blk_drew ?_ | refine blk_alloc ?_ _)); refine blk_far ?_ NBr_t.out _; (with_reducible repeat (first | refine blk_drewN ?_ _ | refine blk_drew ?_ | refine blk_alloc ?_ _)); exact BKr.out) 0).trans rfl, (blk_cell (t := 31) (cs := #[.int .i64 L1, .int .i64 L2, .int .i64 L3]) (by (with_reducible repeat (first | refine blk_drewN ?_ _ | refine blk_drew ?_ | refine blk_alloc ?_ _)); refine blk_far ?_ NBl_t.out _; (with_reducible repeat (first | refine blk_drewN ?_ _ | refine blk_drew ?_ | refine blk_alloc ?_ _)); refine blk_far ?_ NBl_t.out _; (with_reducible repeat (first | refine blk_drewN ?_ _ | refine blk_drew ?_ | refine blk_alloc ?_ _)); exact BKl.out) 0).trans rfl, (blk_cell (t := 31) (cs := #[.int .i64 L1, .int .i64 L2, .int .i64 L3]) (by (with_reducible repeat (first | refine blk_drewN ?_ _ | refine blk_drew ?_ | refine blk_alloc ?_ _)); refine blk_far ?_ NBl_t.out _; (with_reducible repeat (first | refine blk_drewN ?_ _ | refine blk_drew ?_ | refine blk_alloc ?_ _)); refine blk_far ?_ NBl_t.out _; (with_reducible repeat (first | refine blk_drewN ?_ _ | refine blk_drew ?_ | refine blk_alloc ?_ _)); exact BKl.out) 1).trans rfl, (blk_cell (t := 31) (cs := #[.int .i64 L1, .int .i64 L2, .int .i64 L3]) (by (with_reducible repeat (first | refine blk_drewN ?_ _ | refine blk_drew ?_ | refine blk_alloc ?_ _)); refine blk_far ?_ NBl_t.out _; (with_reducible repeat (first | refine blk_drewN ?_ _ | refine blk_drew ?_ | refine blk_alloc ?_ _)); refine blk_far ?_ NBl_t.out _; (with_reducible repeat (first | refine blk_drewN ?_ _ | refine blk_drew ?_ | refine blk_alloc ?_ _)); exact BKl.out) 2).trans rfl, (blk_cell (t := 81) (cs := #[.int .i64 (wrap64 (sv + b)), .int .i64 b]) (by (with_reducible repeat (first | refine blk_drewN ?_ _ | refine blk_drew ?_ | refine blk_alloc ?_ _)); refine blk_put (cs := #[.int .i64 (wrap64 (sv + b)), .int .i64 0]) ?_ 1 _ rfl; (with_reducible repeat (first | refine blk_drewN ?_ _ | refine blk_drew ?_ | refine blk_alloc ?_ _)); refine blk_put (cs := #[.int .i64 0, .int .i64 0]) ?_ 0 _ rfl; (with_reducible repeat (first | refine blk_drewN ?_ _ | refine blk_drew ?_ | refine blk_alloc ?_ _)); exact BKt.out) 0).trans rfl, (blk_cell (t := 81) (cs := #[.int .i64 (wrap64 (sv + b)), .int .i64 b]) (by (with_reducible repeat (first | refine blk_drewN ?_ _ | refine blk_drew ?_ | refine blk_alloc ?_ _)); refine blk_put (cs := #[.int .i64 (wrap64 (sv + b)), .int .i64 0]) ?_ 1 _ rfl; (with_reducible repeat (first | refine blk_drewN ?_ _ | refine blk_drew ?_ | refine blk_alloc ?_ _)); refine blk_put (cs := #[.int .i64 0, .int .i64 0]) ?_ 0 _ rfl; (with_reducible repeat (first | refine blk_drewN ?_ _ | refine blk_drew ?_ | refine blk_alloc ?_ _)); exact BKt.out) 1).trans rfl⟩
 generalize World.drew _ = wz2 at hHeld ⊢
 refine pu 0 13 (bzz 20 1) (any_of HT_.out (by kernel_rfl)) ?_
 refine ta 1 14 (bzz 20 3) (take_ofW HT_.out HW_.out (by kernel_rfl)) hHeld ?_
 refine ta 2 15 (bzz 20 7) (take_ofW HT_.out HW_.out (by kernel_rfl)) hHeld ?_
 refine pu 3 16 (bzz 20 15) (any_of HT_.out (by kernel_rfl)) ?_
 refine pu 4 17 (bzz 20 31) (any_of HT_.out (by kernel_rfl)) ?_
 refine ta 5 18 (bzz 20 63) (take_ofW HT_.out HW_.out (by kernel_rfl)) hHeld ?_
 refine ta 6 19 (bzz 20 127) (take_ofW HT_.out HW_.out (by kernel_rfl)) hHeld ?_
 refine one_ (i := 7) (N := some 20) (bzz 20 255) rfl rfl (one_of HT_.out (by kernel_rfl)) (by decide) (fun K hK => ?_)
 refine goes_ Try.func49 (by kernel_rfl) rfl #[.agg #[.int .i64 L1, .int .i64 L2, .int .i64 L3], .agg #[.int .i64 (wrap64 (sv + b)), .int .i64 b]] (by rfl) rfl rfl (by simp only [List.map_toArray, List.map_cons, List.map_nil]; rfl) ?_
 with_reducible refine (profile_Limits_safe.calls k L1 L2 L3 (wrap64 (sv + b)) b false _ A1.out).mono ?_
 rintro e w3 ⟨rfl, hb⟩
 refine ⟨_, rfl, ?_⟩
 refine hK.out _ _ ⟨⟨blk_below hHeld.1.out hb⟩, ⟨blk_below hHeld.2.1.out hb⟩, ⟨blk_below hHeld.2.2.1.out hb⟩, ⟨blk_below hHeld.2.2.2.1.out hb⟩, ⟨below_step hHeld.2.2.2.2.1.out hb⟩, (blk_cell (blk_below hHeld.1.out hb) 0).trans rfl, (blk_cell (blk_below hHeld.1.out hb) 1).trans rfl, (blk_cell (blk_below hHeld.2.1.out hb) 0).trans rfl, (blk_cell (blk_below hHeld.2.2.1.out hb) 0).trans rfl, (blk_cell (blk_below hHeld.2.2.1.out hb) 1).trans rfl, (blk_cell (blk_below hHeld.2.2.1.out hb) 2).trans rfl, (blk_cell (blk_below hHeld.2.2.2.1.out hb) 0).trans rfl, (blk_cell (blk_below hHeld.2.2.2.1.out hb) 1).trans rfl⟩ (fun hHeld => ?_)
 clear hK K
 refine norm_ (a' := ?_) ?_ ?_
 rotate_left
 · show Act.put _ (some 20) _ = _
   simp only [Act.put, List.setIfInBounds_toArray, List.set_cons_zero, List.set_cons_succ, i64_w, i32_w]
   rfl
 refine pu 8 21 (bzz 20 511) (any_of HT_.out (by kernel_rfl)) ?_
 refine pu 9 22 (bzz 20 1023) (any_of HT_.out (by kernel_rfl)) ?_
 refine po 10 23 (bzz 20 2047) (any_of HT_.out (by kernel_rfl)) ?_
 refine po 11 24 (bzz 20 4095) (any_of HT_.out (by kernel_rfl)) ?_
 refine po 12 25 (bzz 20 8191) (any_of HT_.out (by kernel_rfl)) ?_
 refine po 13 26 (bzz 20 16383) (any_of HT_.out (by kernel_rfl)) ?_
 refine po 14 27 (bzz 20 32767) (any_of HT_.out (by kernel_rfl)) ?_
 refine po 15 28 (bzz 20 65535) (any_of HT_.out (by kernel_rfl)) ?_
 refine po 16 29 (bzz 20 131071) (any_of HT_.out (by kernel_rfl)) ?_
 refine po 17 30 (bzz 20 262143) (any_of HT_.out (by kernel_rfl)) ?_
 refine pu 18 31 (bzz 20 524287) (any_of HT_.out (by kernel_rfl)) ?_
 refine pu 19 5 (bzz 20 1048575) (any_of HT_.out (by kernel_rfl)) ?_
 refine done_ (done_of HT_.out (by kernel_rfl)) ?_
 try clear HT_ HW_
 have hAll_ := hHeld
 clear hHeld
 clear BKs BKr BKl BKt HB
 have BKs := hAll_.1
 have BKr := hAll_.2.1
 have BKl := hAll_.2.2.1
 have BKt := hAll_.2.2.2.1
 have HB := hAll_.2.2.2.2.1
 clear hAll_
 try go_wp2
 go_ret
 exact ⟨rfl, HB.out⟩
set_option maxRecDepth 100000 in
set_option maxHeartbeats 8000000 in
theorem profile_Limits_next_1.dist (k : Nat) (b sv sa rest L1 L2 L3 : Int) (t2 : Int) (gbs gbr gbl : Nat) (w : World) (Hs : w.heap[gbs]? = some (.cells #[.int .i64 sv, .int .i64 sa] 81 (0, 0))) (Hr : w.heap[gbr]? = some (.cells #[.int .i64 rest] 2 (0, 0))) (Hl : w.heap[gbl]? = some (.cells #[.int .i64 L1, .int .i64 L2, .int .i64 L3] 31 (0, 0))) (c : wrap64 (sv + b) ≤ rest) (h1 : profile_Limits_safe.f k L1 L2 L3 (wrap64 (sv + b)) b = some true) (h2 : profile_Limits_distance.f k L1 L2 L3 (wrap64 (sv + b)) b = some t2) :
 Calls Try.prog 52 #[.int .i64 b, .pointer (some ⟨gbs, 0, none⟩), .pointer (some ⟨gbr, 0, none⟩), .pointer (some ⟨gbl, 0, none⟩)] w fun e w' => e = .returned (.bool (decide (t2 ≤ wrap64 (rest - wrap64 (sv + b))))) ∧ Below w.heap.size w w' := by
 have hu31 := Try.underlying31
 have hu81 := Try.underlying81
 have HB := Aside0.mk (Below.refl w.heap.size w)
 have BKs := Aside0.mk Hs
 have BKr := Aside0.mk Hr
 have BKl := Aside0.mk Hl
 clear Hs Hr Hl
 have cb : decide (wrap64 (sv + b) ≤ rest) = true := decide_eq_true c
 clear c
 have A1 := Aside0.mk h1
 clear h1
 have A2 := Aside0.mk h2
 clear h2
 have hcz0_0 : w.cell? ⟨gbs, 0, none⟩ = some (.int .i64 sv) := (blk_cell BKs.out 0).trans rfl
 go_enter Try.func52, Try.ntmps52
 go_wp2_with (first | ((with_reducible refine gate_dst (N := 6) rfl ?_); refine box_event ?hg (N := 6) ?hd (cs := #[.int .i64 0, .int .i64 0]) (t := 81) ?hr ?_; (case hd => rfl); (case hg => rfl); (case hr => first | (go_simp; done) | (go_simp; rfl)); intro gbt hg wz1 hbox hb; have n0_ := Aside0.mk (blk_below (g := gbs) (o := .cells #[.int .i64 sv, .int .i64 sa] 81 (0, 0)) (by (with_reducible repeat (first | refine blk_drewN ?_ _ | refine blk_drew ?_ | refine blk_alloc ?_ _)); exact BKs.out) hb); have n1_ := Aside0.mk (blk_below (g := gbr) (o := .cells #[.int .i64 rest] 2 (0, 0)) (by (with_reducible repeat (first | refine blk_drewN ?_ _ | refine blk_drew ?_ | refine blk_alloc ?_ _)); exact BKr.out) hb); have n2_ := Aside0.mk (blk_below (g := gbl) (o := .cells #[.int .i64 L1, .int .i64 L2, .int .i64 L3] 31 (0, 0)) (by (with_reducible repeat (first | refine blk_drewN ?_ _ | refine blk_drew ?_ | refine blk_alloc ?_ _)); exact BKl.out) hb); have n3_ := Aside0.mk (below_step (by repeat (first | (with_reducible first | exact HB.out | apply below_alloc | apply pw_below_drewN | apply below_drew1) | exact HB.out)) hb); have n4_ := Aside0.mk (hbox); have n5_ := Aside0.mk ((by rw [hg]; exact (below_size (by repeat (first | (with_reducible first | exact HB.out | apply below_alloc | apply pw_below_drewN | apply below_drew1) | exact HB.out)))) : w.heap.size ≤ gbt); have n6_ := Aside0.mk ((by rw [hg]; exact Nat.ne_of_lt (blk_lt (g := gbs) (o := .cells #[.int .i64 sv, .int .i64 sa] 81 (0, 0)) (by (with_reducible repeat (first | refine blk_drewN ?_ _ | refine blk_drew ?_ | refine blk_alloc ?_ _)); exact BKs.out))) : gbs ≠ gbt); have n7_ := Aside0.mk ((by rw [hg]; exact Nat.ne_of_gt (blk_lt (g := gbs) (o := .cells #[.int .i64 sv, .int .i64 sa] 81 (0, 0)) (by (with_reducible repeat (first | refine blk_drewN ?_ _ | refine blk_drew ?_ | refine blk_alloc ?_ _)); exact BKs.out))) : gbt ≠ gbs); have n8_ := Aside0.mk ((by rw [hg]; exact Nat.ne_of_lt (blk_lt (g := gbr) (o := .cells #[.int .i64 rest] 2 (0, 0)) (by (with_reducible repeat (first | refine blk_drewN ?_ _ | refine blk_drew ?_ | refine blk_alloc ?_ _)); exact BKr.out))) : gbr ≠ gbt); have n9_ := Aside0.mk ((by rw [hg]; exact Nat.ne_of_gt (blk_lt (g := gbr) (o := .cells #[.int .i64 rest] 2 (0, 0)) (by (with_reducible repeat (first | refine blk_drewN ?_ _ | refine blk_drew ?_ | refine blk_alloc ?_ _)); exact BKr.out))) : gbt ≠ gbr); have n10_ := Aside0.mk ((by rw [hg]; exact Nat.ne_of_lt (blk_lt (g := gbl) (o := .cells #[.int .i64 L1, .int .i64 L2, .int .i64 L3] 31 (0, 0)) (by (with_reducible repeat (first | refine blk_drewN ?_ _ | refine blk_drew ?_ | refine blk_alloc ?_ _)); exact BKl.out))) : gbl ≠ gbt); have n11_ := Aside0.mk ((by rw [hg]; exact Nat.ne_of_gt (blk_lt (g := gbl) (o := .cells #[.int .i64 L1, .int .i64 L2, .int .i64 L3] 31 (0, 0)) (by (with_reducible repeat (first | refine blk_drewN ?_ _ | refine blk_drew ?_ | refine blk_alloc ?_ _)); exact BKl.out))) : gbt ≠ gbl); clear BKs BKr BKl HB; have BKs := n0_; have BKr := n1_; have BKl := n2_; have HB := n3_; have BKt := n4_; have GEt := n5_; have NBs_t := n6_; have NBt_s := n7_; have NBr_t := n8_; have NBt_r := n9_; have NBl_t := n10_; have NBt_l := n11_; clear n0_ n1_ n2_ n3_ n4_ n5_ n6_ n7_ n8_ n9_ n10_ n11_; clear hb hbox hg; have hcz9_t_0 : wz1.cell? ⟨gbt, 0, none⟩ = some (.int .i64 0) := (blk_cell BKt.out 0).trans rfl; have hcz9_t_1 : wz1.cell? ⟨gbt, 1, none⟩ = some (.int .i64 0) := (blk_cell BKt.out 1).trans rfl; have hfz9_t_0 := blk_frozen BKt.out 0; have hfz9_t_1 := blk_frozen BKt.out 1))
 clear hcz0_0
 clear hcz9_t_0 hcz9_t_1 hfz9_t_0 hfz9_t_1
 refine start_ (n := 20) (S := fun w' => Aside0 (w'.heap[gbs]? = some (.cells #[.int .i64 sv, .int .i64 sa] 81 (0, 0))) ∧ Aside0 (w'.heap[gbr]? = some (.cells #[.int .i64 rest] 2 (0, 0))) ∧ Aside0 (w'.heap[gbl]? = some (.cells #[.int .i64 L1, .int .i64 L2, .int .i64 L3] 31 (0, 0))) ∧ Aside0 (w'.heap[gbt]? = some (.cells #[.int .i64 (wrap64 (sv + b)), .int .i64 b] 81 (0, 0))) ∧ Aside0 (Below w.heap.size w w') ∧ w'.cell? ⟨gbs, 0, none⟩ = some (.int .i64 sv) ∧ w'.cell? ⟨gbs, 1, none⟩ = some (.int .i64 sa) ∧ w'.cell? ⟨gbr, 0, none⟩ = some (.int .i64 rest) ∧ w'.cell? ⟨gbl, 0, none⟩ = some (.int .i64 L1) ∧ w'.cell? ⟨gbl, 1, none⟩ = some (.int .i64 L2) ∧ w'.cell? ⟨gbl, 2, none⟩ = some (.int .i64 L3) ∧ w'.cell? ⟨gbt, 0, none⟩ = some (.int .i64 (wrap64 (sv + b))) ∧ w'.cell? ⟨gbt, 1, none⟩ = some (.int .i64 b)) (ds := []) #[false, false, false, false, false, false, false, false, false, false, false, false, false, false, false, false, false, false, false, false] (by kernel_rfl) rfl rfl ?hS_ (fun hHeld => ?_)
 rotate_left
 refine with_tabW profile_Limits_next_1.tab2 profile_Limits_next_1.bits2 (fun HT_ HW_ => ?_)
 rotate_left
 · exact ⟨⟨by (with_reducible repeat (first | refine blk_drewN ?_ _ | refine blk_drew ?_ | refine blk_alloc ?_ _)); refine blk_far ?_ NBs_t.out _; (with_reducible repeat (first | refine blk_drewN ?_ _ | refine blk_drew ?_ | refine blk_alloc ?_ _)); refine blk_far ?_ NBs_t.out _; (with_reducible repeat (first | refine blk_drewN ?_ _ | refine blk_drew ?_ | refine blk_alloc ?_ _)); exact BKs.out⟩, ⟨by (with_reducible repeat (first | refine blk_drewN ?_ _ | refine blk_drew ?_ | refine blk_alloc ?_ _)); refine blk_far ?_ NBr_t.out _; (with_reducible repeat (first | refine blk_drewN ?_ _ | refine blk_drew ?_ | refine blk_alloc ?_ _)); refine blk_far ?_ NBr_t.out _; (with_reducible repeat (first | refine blk_drewN ?_ _ | refine blk_drew ?_ | refine blk_alloc ?_ _)); exact BKr.out⟩, ⟨by (with_reducible repeat (first | refine blk_drewN ?_ _ | refine blk_drew ?_ | refine blk_alloc ?_ _)); refine blk_far ?_ NBl_t.out _; (with_reducible repeat (first | refine blk_drewN ?_ _ | refine blk_drew ?_ | refine blk_alloc ?_ _)); refine blk_far ?_ NBl_t.out _; (with_reducible repeat (first | refine blk_drewN ?_ _ | refine blk_drew ?_ | refine blk_alloc ?_ _)); exact BKl.out⟩, ⟨by (with_reducible repeat (first | refine blk_drewN ?_ _ | refine blk_drew ?_ | refine blk_alloc ?_ _)); refine blk_put (cs := #[.int .i64 (wrap64 (sv + b)), .int .i64 0]) ?_ 1 _ rfl; (with_reducible repeat (first | refine blk_drewN ?_ _ | refine blk_drew ?_ | refine blk_alloc ?_ _)); refine blk_put (cs := #[.int .i64 0, .int .i64 0]) ?_ 0 _ rfl; (with_reducible repeat (first | refine blk_drewN ?_ _ | refine blk_drew ?_ | refine blk_alloc ?_ _)); exact BKt.out⟩, ⟨by repeat (first | (with_reducible first | exact HB.out | apply below_alloc | apply pw_below_drewN | apply below_drew1 | refine below_set ?_ GEt.out) | exact HB.out)⟩, (blk_cell (t := 81) (cs := #[.int .i64 sv, .int .i64 sa]) (by (with_reducible repeat (first | refine blk_drewN ?_ _ | refine blk_drew ?_ | refine blk_alloc ?_ _)); refine blk_far ?_ NBs_t.out _; (with_reducible repeat (first | refine blk_drewN ?_ _ | refine blk_drew ?_ | refine blk_alloc ?_ _)); refine blk_far ?_ NBs_t.out _; (with_reducible repeat (first | refine blk_drewN ?_ _ | refine blk_drew ?_ | refine blk_alloc ?_ _)); exact BKs.out) 0).trans rfl, (blk_cell (t := 81) (cs := #[.int .i64 sv, .int .i64 sa]) (by (with_reducible repeat (first | refine blk_drewN ?_ _ | refine blk_drew ?_ | refine blk_alloc ?_ _)); refine blk_far ?_ NBs_t.out _; (with_reducible repeat (first | refine blk_drewN ?_ _ | refine blk_drew ?_ | refine blk_alloc ?_ _)); refine blk_far ?_ NBs_t.out _; (with_reducible repeat (first | refine blk_drewN ?_ _ | refine blk_drew ?_ | refine blk_alloc ?_ _)); exact BKs.out) 1).trans rfl, (blk_cell (t := 2) (cs := #[.int .i64 rest]) (by (with_reducible repeat (first | refine blk_drewN ?_ _ | refine blk_drew ?_ | refine blk_alloc ?_ _)); refine blk_far ?_ NBr_t.out _; (with_reducible repeat (first | refine blk_drewN ?_ _ | refine blk_drew ?_ | refine blk_alloc ?_ _)); refine blk_far ?_ NBr_t.out _; (with_reducible repeat (first | refine blk_drewN ?_ _ | refine blk_drew ?_ | refine blk_alloc ?_ _)); exact BKr.out) 0).trans rfl, (blk_cell (t := 31) (cs := #[.int .i64 L1, .int .i64 L2, .int .i64 L3]) (by (with_reducible repeat (first | refine blk_drewN ?_ _ | refine blk_drew ?_ | refine blk_alloc ?_ _)); refine blk_far ?_ NBl_t.out _; (with_reducible repeat (first | refine blk_drewN ?_ _ | refine blk_drew ?_ | refine blk_alloc ?_ _)); refine blk_far ?_ NBl_t.out _; (with_reducible repeat (first | refine blk_drewN ?_ _ | refine blk_drew ?_ | refine blk_alloc ?_ _)); exact BKl.out) 0).trans rfl, (blk_cell (t := 31) (cs := #[.int .i64 L1, .int .i64 L2, .int .i64 L3]) (by (with_reducible repeat (first | refine blk_drewN ?_ _ | refine blk_drew ?_ | refine blk_alloc ?_ _)); refine blk_far ?_ NBl_t.out _; (with_reducible repeat (first | refine blk_drewN ?_ _ | refine blk_drew ?_ | refine blk_alloc ?_ _)); refine blk_far ?_ NBl_t.out _; (with_reducible repeat (first | refine blk_drewN ?_ _ | refine blk_drew ?_ | refine blk_alloc ?_ _)); exact BKl.out) 1).trans rfl, (blk_cell (t := 31) (cs := #[.int .i64 L1, .int .i64 L2, .int .i64 L3]) (by (with_reducible repeat (first | refine blk_drewN ?_ _ | refine blk_drew ?_ | refine blk_alloc ?_ _)); refine blk_far ?_ NBl_t.out _; (with_reducible repeat (first | refine blk_drewN ?_ _ | refine blk_drew ?_ | refine blk_alloc ?_ _)); refine blk_far ?_ NBl_t.out _; (with_reducible repeat (first | refine blk_drewN ?_ _ | refine blk_drew ?_ | refine blk_alloc ?_ _)); exact BKl.out) 2).trans rfl, (blk_cell (t := 81) (cs := #[.int .i64 (wrap64 (sv + b)), .int .i64 b]) (by (with_reducible repeat (first | refine blk_drewN ?_ _ | refine blk_drew ?_ | refine blk_alloc ?_ _)); refine blk_put (cs := #[.int .i64 (wrap64 (sv + b)), .int .i64 0]) ?_ 1 _ rfl; (with_reducible repeat (first | refine blk_drewN ?_ _ | refine blk_drew ?_ | refine blk_alloc ?_ _)); refine blk_put (cs := #[.int .i64 0, .int .i64 0]) ?_ 0 _ rfl; (with_reducible repeat (first | refine blk_drewN ?_ _ | refine blk_drew ?_ | refine blk_alloc ?_ _)); exact BKt.out) 0).trans rfl, (blk_cell (t := 81) (cs := #[.int .i64 (wrap64 (sv + b)), .int .i64 b]) (by (with_reducible repeat (first | refine blk_drewN ?_ _ | refine blk_drew ?_ | refine blk_alloc ?_ _)); refine blk_put (cs := #[.int .i64 (wrap64 (sv + b)), .int .i64 0]) ?_ 1 _ rfl; (with_reducible repeat (first | refine blk_drewN ?_ _ | refine blk_drew ?_ | refine blk_alloc ?_ _)); refine blk_put (cs := #[.int .i64 0, .int .i64 0]) ?_ 0 _ rfl; (with_reducible repeat (first | refine blk_drewN ?_ _ | refine blk_drew ?_ | refine blk_alloc ?_ _)); exact BKt.out) 1).trans rfl⟩
 generalize World.drew _ = wz2 at hHeld ⊢
 refine pu 0 13 (bzz 20 1) (any_of HT_.out (by kernel_rfl)) ?_
 refine ta 1 14 (bzz 20 3) (take_ofW HT_.out HW_.out (by kernel_rfl)) hHeld ?_
 refine ta 2 15 (bzz 20 7) (take_ofW HT_.out HW_.out (by kernel_rfl)) hHeld ?_
 refine pu 3 16 (bzz 20 15) (any_of HT_.out (by kernel_rfl)) ?_
 refine pu 4 17 (bzz 20 31) (any_of HT_.out (by kernel_rfl)) ?_
 refine ta 5 18 (bzz 20 63) (take_ofW HT_.out HW_.out (by kernel_rfl)) hHeld ?_
 refine ta 6 19 (bzz 20 127) (take_ofW HT_.out HW_.out (by kernel_rfl)) hHeld ?_
 refine one_ (i := 7) (N := some 20) (bzz 20 255) rfl rfl (one_of HT_.out (by kernel_rfl)) (by decide) (fun K hK => ?_)
 refine goes_ Try.func49 (by kernel_rfl) rfl #[.agg #[.int .i64 L1, .int .i64 L2, .int .i64 L3], .agg #[.int .i64 (wrap64 (sv + b)), .int .i64 b]] (by rfl) rfl rfl (by simp only [List.map_toArray, List.map_cons, List.map_nil]; rfl) ?_
 with_reducible refine (profile_Limits_safe.calls k L1 L2 L3 (wrap64 (sv + b)) b true _ A1.out).mono ?_
 rintro e w3 ⟨rfl, hb⟩
 refine ⟨_, rfl, ?_⟩
 refine hK.out _ _ ⟨⟨blk_below hHeld.1.out hb⟩, ⟨blk_below hHeld.2.1.out hb⟩, ⟨blk_below hHeld.2.2.1.out hb⟩, ⟨blk_below hHeld.2.2.2.1.out hb⟩, ⟨below_step hHeld.2.2.2.2.1.out hb⟩, (blk_cell (blk_below hHeld.1.out hb) 0).trans rfl, (blk_cell (blk_below hHeld.1.out hb) 1).trans rfl, (blk_cell (blk_below hHeld.2.1.out hb) 0).trans rfl, (blk_cell (blk_below hHeld.2.2.1.out hb) 0).trans rfl, (blk_cell (blk_below hHeld.2.2.1.out hb) 1).trans rfl, (blk_cell (blk_below hHeld.2.2.1.out hb) 2).trans rfl, (blk_cell (blk_below hHeld.2.2.2.1.out hb) 0).trans rfl, (blk_cell (blk_below hHeld.2.2.2.1.out hb) 1).trans rfl⟩ (fun hHeld => ?_)
 clear hK K
 refine norm_ (a' := ?_) ?_ ?_
 rotate_left
 · show Act.put _ (some 20) _ = _
   simp only [Act.put, List.setIfInBounds_toArray, List.set_cons_zero, List.set_cons_succ, i64_w, i32_w]
   rfl
 refine pu 8 21 (bzz 20 511) (any_of HT_.out (by kernel_rfl)) ?_
 refine pu 9 22 (bzz 20 1023) (any_of HT_.out (by kernel_rfl)) ?_
 refine pu 14 27 (bzz 20 17407) (any_of HT_.out (by kernel_rfl)) ?_
 refine ta 10 23 (bzz 20 18431) (take_ofW HT_.out HW_.out (by kernel_rfl)) hHeld ?_
 refine ta 11 24 (bzz 20 20479) (take_ofW HT_.out HW_.out (by kernel_rfl)) hHeld ?_
 refine ta 13 26 (bzz 20 28671) (take_ofW HT_.out HW_.out (by kernel_rfl)) hHeld ?_
 refine ta 15 28 (bzz 20 61439) (take_ofW HT_.out HW_.out (by kernel_rfl)) hHeld ?_
 refine pu 16 29 (bzz 20 126975) (any_of HT_.out (by kernel_rfl)) ?_
 refine one_ (i := 12) (N := some 25) (bzz 20 131071) rfl rfl (one_of HT_.out (by kernel_rfl)) (by decide) (fun K hK => ?_)
 refine goes_ Try.func41 (by kernel_rfl) rfl #[.agg #[.int .i64 L1, .int .i64 L2, .int .i64 L3], .agg #[.int .i64 (wrap64 (sv + b)), .int .i64 b]] (by rfl) rfl rfl (by simp only [List.map_toArray, List.map_cons, List.map_nil]; rfl) ?_
 with_reducible refine (profile_Limits_distance.calls k L1 L2 L3 (wrap64 (sv + b)) b t2 _ A2.out).mono ?_
 rintro e w3 ⟨rfl, hb⟩
 refine ⟨_, rfl, ?_⟩
 refine hK.out _ _ ⟨⟨blk_below hHeld.1.out hb⟩, ⟨blk_below hHeld.2.1.out hb⟩, ⟨blk_below hHeld.2.2.1.out hb⟩, ⟨blk_below hHeld.2.2.2.1.out hb⟩, ⟨below_step hHeld.2.2.2.2.1.out hb⟩, (blk_cell (blk_below hHeld.1.out hb) 0).trans rfl, (blk_cell (blk_below hHeld.1.out hb) 1).trans rfl, (blk_cell (blk_below hHeld.2.1.out hb) 0).trans rfl, (blk_cell (blk_below hHeld.2.2.1.out hb) 0).trans rfl, (blk_cell (blk_below hHeld.2.2.1.out hb) 1).trans rfl, (blk_cell (blk_below hHeld.2.2.1.out hb) 2).trans rfl, (blk_cell (blk_below hHeld.2.2.2.1.out hb) 0).trans rfl, (blk_cell (blk_below hHeld.2.2.2.1.out hb) 1).trans rfl⟩ (fun hHeld => ?_)
 clear hK K
 refine norm_ (a' := ?_) ?_ ?_
 rotate_left
 · show Act.put _ (some 25) _ = _
   simp only [Act.put, List.setIfInBounds_toArray, List.set_cons_zero, List.set_cons_succ, i64_w, i32_w]
   rfl
 refine pu 17 30 (bzz 20 262143) (any_of HT_.out (by kernel_rfl)) ?_
 refine pu 18 31 (bzz 20 524287) (any_of HT_.out (by kernel_rfl)) ?_
 refine pu 19 5 (bzz 20 1048575) (any_of HT_.out (by kernel_rfl)) ?_
 refine done_ (done_of HT_.out (by kernel_rfl)) ?_
 try clear HT_ HW_
 have hAll_ := hHeld
 clear hHeld
 clear BKs BKr BKl BKt HB
 have BKs := hAll_.1
 have BKr := hAll_.2.1
 have BKl := hAll_.2.2.1
 have BKt := hAll_.2.2.2.1
 have HB := hAll_.2.2.2.2.1
 clear hAll_
 try go_wp2
 go_ret
 exact ⟨rfl, HB.out⟩
theorem profile_Limits_next_1.calls (k : Nat) (b sv sa rest L1 L2 L3 : Int) (r : Bool) (gbs gbr gbl : Nat) (w : World) (Hs : w.heap[gbs]? = some (.cells #[.int .i64 sv, .int .i64 sa] 81 (0, 0))) (Hr : w.heap[gbr]? = some (.cells #[.int .i64 rest] 2 (0, 0))) (Hl : w.heap[gbl]? = some (.cells #[.int .i64 L1, .int .i64 L2, .int .i64 L3] 31 (0, 0))) (h : profile_Limits_next_1.f k b sv sa rest L1 L2 L3 = some r) :
 Calls Try.prog 52 #[.int .i64 b, .pointer (some ⟨gbs, 0, none⟩), .pointer (some ⟨gbr, 0, none⟩), .pointer (some ⟨gbl, 0, none⟩)] w fun e w' => e = .returned (.bool r) ∧ Below w.heap.size w w' := by
 unfold profile_Limits_next_1.f at h
 by_cases c : wrap64 (sv + b) ≤ rest
 · rw [if_pos c] at h
   replace h := Option.bind_eq_some_iff.mp h
   obtain ⟨t1, h1, h⟩ := h
   cases t1 with
   | false =>
     obtain rfl : false = r := Option.some.inj h
     exact profile_Limits_next_1.unfit k b sv sa rest L1 L2 L3 gbs gbr gbl w Hs Hr Hl c h1
   | true =>
     replace h : (profile_Limits_distance.f k L1 L2 L3 (wrap64 (sv + b)) b).bind (fun t2 => some (decide (t2 ≤ wrap64 (rest - wrap64 (sv + b))))) = some r := h
     replace h := Option.bind_eq_some_iff.mp h
     obtain ⟨t2, h2, h⟩ := h
     obtain rfl := Option.some.inj h
     exact profile_Limits_next_1.dist k b sv sa rest L1 L2 L3 t2 gbs gbr gbl w Hs Hr Hl c h1 h2
 · rw [if_neg c] at h
   obtain rfl := Option.some.inj h
   exact profile_Limits_next_1.no k b sv sa rest L1 L2 L3 gbs gbr gbl w Hs Hr Hl c
end Go.Proofs.Ytmaegpblaihepaa.F
