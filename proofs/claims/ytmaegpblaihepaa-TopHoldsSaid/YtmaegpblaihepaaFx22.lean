-- The machine side of a proof, written by a program of the session out of Lean's print of the loaded functions. Lean checks it.
import Derived.Test.YtmaegpblaihepaaFx0
import Derived.Test.YtmaegpblaihepaaSqr
namespace Go.Proofs.Ytmaegpblaihepaa.F
open Go.RowKit Go.Proofs.YtmaegpblaihepaaW.PrintWords Go.Proofs.YtmaegpblaihepaaW.PrintLast Go.Proofs.YtmaegpblaihepaaW.PrintMore
attribute [local go_sem] max2_int min2_int max_two min_two max_three min_three max_four min_four   -- for this text's walks alone
set_option linter.unusedVariables false
set_option linter.unusedSimpArgs false
mutual
def controller_length.j1 : Nat → Int → Int → Option (Int)
 | 0, _, _ => none
 | k + 1, x6, x7 => controller_length.l1 k x6 x7
def controller_length.l1 : Nat → Int → Int → Option (Int)
 | 0, _, _ => none
 | k + 1, x6, x7 => if (wrap64 (x7 * x7)) < x6 then (controller_length.l1 k x6 (wrap64 (x7 + 1))) else (some x7)
def controller_length.l0 : Nat → Int → Int → Option (Int)
 | 0, _, _ => none
 | k + 1, x6, x7 => if x7 > 0 then (if (wrap64 ((wrap64 (x7 - 1)) * (wrap64 (x7 - 1)))) ≥ x6 then (controller_length.l0 k x6 (wrap64 (x7 - 1))) else (controller_length.j1 k x6 x7)) else (controller_length.j1 k x6 x7)
end
def controller_length.f (k : Nat) (a0_0 : Int) (a0_1 : Int) (a0_2 : Int) (a0_3 : Int) (a0_4 : Int) (a0_5 : Int) (a0_6 : Int) (a0_7 : Int) (a0_8 : Int) : Option (Int) := (fsq (wrap64 ((wrap64 ((wrap64 ((wrap64 (a0_3 - a0_0)) * (wrap64 (a0_3 - a0_0)))) + (wrap64 ((wrap64 (a0_4 - a0_1)) * (wrap64 (a0_4 - a0_1)))))) + (wrap64 ((wrap64 (a0_5 - a0_2)) * (wrap64 (a0_5 - a0_2))))))).bind fun n0 => controller_length.l0 k (wrap64 ((wrap64 ((wrap64 ((wrap64 (a0_3 - a0_0)) * (wrap64 (a0_3 - a0_0)))) + (wrap64 ((wrap64 (a0_4 - a0_1)) * (wrap64 (a0_4 - a0_1)))))) + (wrap64 ((wrap64 (a0_5 - a0_2)) * (wrap64 (a0_5 - a0_2)))))) n0
theorem controller_length.mono_l : ∀ k, (∀ y0 y1, LeO (controller_length.j1 k y0 y1) (controller_length.j1 (k + 1) y0 y1)) ∧ (∀ y0 y1, LeO (controller_length.l1 k y0 y1) (controller_length.l1 (k + 1) y0 y1)) ∧ (∀ y0 y1, LeO (controller_length.l0 k y0 y1) (controller_length.l0 (k + 1) y0 y1))
 | 0 => ⟨fun _ _ r h => by simp [controller_length.j1] at h, fun _ _ r h => by simp [controller_length.l1] at h, fun _ _ r h => by simp [controller_length.l0] at h⟩
 | k + 1 => by
  obtain ⟨ih0, ih1, ih2⟩ := controller_length.mono_l k
  refine ⟨?_, ?_, ?_⟩
  ·intro y0 y1
   unfold controller_length.j1
   repeat' first
   | (with_reducible exact ih0 _ _)
   | (with_reducible exact ih1 _ _)
   | (with_reducible exact ih2 _ _)
   | (with_reducible exact LeO.refl _)
   | (with_reducible exact LeO.none _)
   | (with_reducible refine LeO.ite ?_ ?_)
   | (with_reducible refine LeO.bind ?_ (fun _ => ?_))
   | exact ih0 _ _
   | exact ih1 _ _
   | exact ih2 _ _
   | exact LeO.none _
   | refine LeO.ite ?_ ?_
   | refine LeO.bind ?_ (fun _ => ?_)
  ·intro y0 y1
   unfold controller_length.l1
   repeat' first
   | (with_reducible exact ih0 _ _)
   | (with_reducible exact ih1 _ _)
   | (with_reducible exact ih2 _ _)
   | (with_reducible exact LeO.refl _)
   | (with_reducible exact LeO.none _)
   | (with_reducible refine LeO.ite ?_ ?_)
   | (with_reducible refine LeO.bind ?_ (fun _ => ?_))
   | exact ih0 _ _
   | exact ih1 _ _
   | exact ih2 _ _
   | exact LeO.none _
   | refine LeO.ite ?_ ?_
   | refine LeO.bind ?_ (fun _ => ?_)
  ·intro y0 y1
   unfold controller_length.l0
   repeat' first
   | (with_reducible exact ih0 _ _)
   | (with_reducible exact ih1 _ _)
   | (with_reducible exact ih2 _ _)
   | (with_reducible exact LeO.refl _)
   | (with_reducible exact LeO.none _)
   | (with_reducible refine LeO.ite ?_ ?_)
   | (with_reducible refine LeO.bind ?_ (fun _ => ?_))
   | exact ih0 _ _
   | exact ih1 _ _
   | exact ih2 _ _
   | exact LeO.none _
   | refine LeO.ite ?_ ?_
   | refine LeO.bind ?_ (fun _ => ?_)
theorem controller_length.mono : ∀ a0 a1 a2 a3 a4 a5 a6 a7 a8 k, LeO (controller_length.f k a0 a1 a2 a3 a4 a5 a6 a7 a8) (controller_length.f (k + 1) a0 a1 a2 a3 a4 a5 a6 a7 a8) := by
 intro a0 a1 a2 a3 a4 a5 a6 a7 a8 k
 obtain ⟨ih0, ih1, ih2⟩ := controller_length.mono_l k
 unfold controller_length.f
 repeat' first
   | (with_reducible exact ih0 _ _)
   | (with_reducible exact ih1 _ _)
   | (with_reducible exact ih2 _ _)
   | (with_reducible exact LeO.refl _)
   | (with_reducible exact LeO.none _)
   | (with_reducible refine LeO.ite ?_ ?_)
   | (with_reducible refine LeO.bind ?_ (fun _ => ?_))
   | exact ih0 _ _
   | exact ih1 _ _
   | exact ih2 _ _
   | exact LeO.none _
   | refine LeO.ite ?_ ?_
   | refine LeO.bind ?_ (fun _ => ?_)
set_option maxHeartbeats 8000000 in
set_option maxRecDepth 100000 in
theorem controller_length.calls (k : Nat) (a0_0 : Int) (a0_1 : Int) (a0_2 : Int) (a0_3 : Int) (a0_4 : Int) (a0_5 : Int) (a0_6 : Int) (a0_7 : Int) (a0_8 : Int) (r : Int) (w : World) (h : controller_length.f k a0_0 a0_1 a0_2 a0_3 a0_4 a0_5 a0_6 a0_7 a0_8 = some r) :
  Calls Try.prog 32 #[.agg #[.int .i64 a0_0, .int .i64 a0_1, .int .i64 a0_2, .int .i64 a0_3, .int .i64 a0_4, .int .i64 a0_5, .int .i64 a0_6, .int .i64 a0_7, .int .i64 a0_8]] w fun e w' => e = .returned (.int .i64 r) ∧ Below w.heap.size w w' := by
 have hu55 := Try.underlying55
 have HB := Aside0.mk (Below.refl w.heap.size w)
 have hu84 := Try.underlying84
 have hu2 := Try.underlying2
 have H0 : ((fsq (wrap64 ((wrap64 ((wrap64 ((wrap64 (a0_3 - a0_0)) * (wrap64 (a0_3 - a0_0)))) + (wrap64 ((wrap64 (a0_4 - a0_1)) * (wrap64 (a0_4 - a0_1)))))) + (wrap64 ((wrap64 (a0_5 - a0_2)) * (wrap64 (a0_5 - a0_2))))))).bind fun n0 => controller_length.l0 k (wrap64 ((wrap64 ((wrap64 ((wrap64 (a0_3 - a0_0)) * (wrap64 (a0_3 - a0_0)))) + (wrap64 ((wrap64 (a0_4 - a0_1)) * (wrap64 (a0_4 - a0_1)))))) + (wrap64 ((wrap64 (a0_5 - a0_2)) * (wrap64 (a0_5 - a0_2)))))) n0) = some r := h
 clear h
 obtain ⟨n0, AF, H⟩ := Option.bind_eq_some_iff.mp H0
 clear H0
 unfold fsq at AF
 obtain ⟨b0, AQ0, AV⟩ := Option.bind_eq_some_iff.mp AF
 have AQ := Aside0.mk AQ0
 clear AF AQ0
 have hcv : ∀ W : World, (convert 84 2 (.float .f64 b0)).run Try.prog W = .ok (.int .i64 n0) W := fun W => run_convert_float_int W 84 2 .f64 .i64 b0 n0 (by rw [hu84]; rfl) hu2 AV
 clear AV
 have HC2 := Aside0.mk H
 clear H
 go_enter Try.func32, Try.ntmps32
 go_upto_block 0 with (first | (go_at_call 46; (with_reducible refine (math_Sqrt.calls _ b0 _ AQ.out).mono ?_); rintro e wsq ⟨rfl, hb⟩; have n0_ := Aside0.mk (blk_below (g := gb154) (by (with_reducible repeat (first | refine blk_drewN ?_ _ | refine blk_drew ?_ | refine blk_alloc ?_ _)); exact BK154.out) hb); have n1_ := Aside0.mk (below_step (by repeat (first | (with_reducible first | exact HB.out | apply below_alloc | apply pw_below_drewN | apply below_drew1 | refine below_set ?_ GE154.out) | exact HB.out)) hb); clear BK154 HB hb; have BK154 := n0_; have HB := n1_; clear n0_ n1_) | ((with_reducible refine gate_dst (N := 1) rfl ?_); refine box_event ?hg (N := 1) ?hd (cs := #[.int .i64 a0_0, .int .i64 a0_1, .int .i64 a0_2, .int .i64 a0_3, .int .i64 a0_4, .int .i64 a0_5, .int .i64 a0_6, .int .i64 a0_7, .int .i64 a0_8]) (t := 55) ?hr ?_; (case hd => rfl); (case hg => rfl); (case hr => first | (go_simp; done) | (go_simp; rfl)); intro gb154 hg w3 hbox hb; have n0_ := Aside0.mk (below_step (by repeat (first | (with_reducible first | exact HB.out | apply below_alloc | apply pw_below_drewN | apply below_drew1) | exact HB.out)) hb); have n1_ := Aside0.mk (hbox); have n2_ := Aside0.mk ((by rw [hg]; exact (below_size (by repeat (first | (with_reducible first | exact HB.out | apply below_alloc | apply pw_below_drewN | apply below_drew1) | exact HB.out))) : w.heap.size ≤ gb154)); have n3_ := Aside0.mk ((by rw [hg]; exact (below_size (by repeat (first | (with_reducible first | exact HB.out | apply below_alloc | apply pw_below_drewN | apply below_drew1) | exact HB.out))) : w.heap.size ≤ gb154)); clear HB; have HB := n0_; have BK154 := n1_; have GW154 := n2_; have GE154 := n3_; clear n0_ n1_ n2_ n3_; clear hb hbox hg; have hcz4_0 : w3.cell? ⟨gb154, 0, none⟩ = some (.int .i64 a0_0) := (blk_cell BK154.out 0).trans rfl; have hcz4_1 : w3.cell? ⟨gb154, 1, none⟩ = some (.int .i64 a0_1) := (blk_cell BK154.out 1).trans rfl; have hcz4_2 : w3.cell? ⟨gb154, 2, none⟩ = some (.int .i64 a0_2) := (blk_cell BK154.out 2).trans rfl; have hcz4_3 : w3.cell? ⟨gb154, 3, none⟩ = some (.int .i64 a0_3) := (blk_cell BK154.out 3).trans rfl; have hcz4_4 : w3.cell? ⟨gb154, 4, none⟩ = some (.int .i64 a0_4) := (blk_cell BK154.out 4).trans rfl; have hcz4_5 : w3.cell? ⟨gb154, 5, none⟩ = some (.int .i64 a0_5) := (blk_cell BK154.out 5).trans rfl; have hcz4_6 : w3.cell? ⟨gb154, 6, none⟩ = some (.int .i64 a0_6) := (blk_cell BK154.out 6).trans rfl; have hcz4_7 : w3.cell? ⟨gb154, 7, none⟩ = some (.int .i64 a0_7) := (blk_cell BK154.out 7).trans rfl; have hcz4_8 : w3.cell? ⟨gb154, 8, none⟩ = some (.int .i64 a0_8) := (blk_cell BK154.out 8).trans rfl; have hfz4_0 := blk_frozen BK154.out 0; have hfz4_1 := blk_frozen BK154.out 1; have hfz4_2 := blk_frozen BK154.out 2; have hfz4_3 := blk_frozen BK154.out 3; have hfz4_4 := blk_frozen BK154.out 4; have hfz4_5 := blk_frozen BK154.out 5; have hfz4_6 := blk_frozen BK154.out 6; have hfz4_7 := blk_frozen BK154.out 7; have hfz4_8 := blk_frozen BK154.out 8))
 repeat (go_quiet (first | (go_at_call 46; (with_reducible refine (math_Sqrt.calls _ b0 _ AQ.out).mono ?_); rintro e wsq ⟨rfl, hb⟩; have n0_ := Aside0.mk (blk_below (g := gb154) (by (with_reducible repeat (first | refine blk_drewN ?_ _ | refine blk_drew ?_ | refine blk_alloc ?_ _)); exact BK154.out) hb); have n1_ := Aside0.mk (below_step (by repeat (first | (with_reducible first | exact HB.out | apply below_alloc | apply pw_below_drewN | apply below_drew1 | refine below_set ?_ GE154.out) | exact HB.out)) hb); clear BK154 HB hb; have BK154 := n0_; have HB := n1_; clear n0_ n1_) | ((with_reducible refine gate_dst (N := 1) rfl ?_); refine box_event ?hg (N := 1) ?hd (cs := #[.int .i64 a0_0, .int .i64 a0_1, .int .i64 a0_2, .int .i64 a0_3, .int .i64 a0_4, .int .i64 a0_5, .int .i64 a0_6, .int .i64 a0_7, .int .i64 a0_8]) (t := 55) ?hr ?_; (case hd => rfl); (case hg => rfl); (case hr => first | (go_simp; done) | (go_simp; rfl)); intro gb154 hg w3 hbox hb; have n0_ := Aside0.mk (below_step (by repeat (first | (with_reducible first | exact HB.out | apply below_alloc | apply pw_below_drewN | apply below_drew1) | exact HB.out)) hb); have n1_ := Aside0.mk (hbox); have n2_ := Aside0.mk ((by rw [hg]; exact (below_size (by repeat (first | (with_reducible first | exact HB.out | apply below_alloc | apply pw_below_drewN | apply below_drew1) | exact HB.out))) : w.heap.size ≤ gb154)); have n3_ := Aside0.mk ((by rw [hg]; exact (below_size (by repeat (first | (with_reducible first | exact HB.out | apply below_alloc | apply pw_below_drewN | apply below_drew1) | exact HB.out))) : w.heap.size ≤ gb154)); clear HB; have HB := n0_; have BK154 := n1_; have GW154 := n2_; have GE154 := n3_; clear n0_ n1_ n2_ n3_; clear hb hbox hg; have hcz4_0 : w3.cell? ⟨gb154, 0, none⟩ = some (.int .i64 a0_0) := (blk_cell BK154.out 0).trans rfl; have hcz4_1 : w3.cell? ⟨gb154, 1, none⟩ = some (.int .i64 a0_1) := (blk_cell BK154.out 1).trans rfl; have hcz4_2 : w3.cell? ⟨gb154, 2, none⟩ = some (.int .i64 a0_2) := (blk_cell BK154.out 2).trans rfl; have hcz4_3 : w3.cell? ⟨gb154, 3, none⟩ = some (.int .i64 a0_3) := (blk_cell BK154.out 3).trans rfl; have hcz4_4 : w3.cell? ⟨gb154, 4, none⟩ = some (.int .i64 a0_4) := (blk_cell BK154.out 4).trans rfl; have hcz4_5 : w3.cell? ⟨gb154, 5, none⟩ = some (.int .i64 a0_5) := (blk_cell BK154.out 5).trans rfl; have hcz4_6 : w3.cell? ⟨gb154, 6, none⟩ = some (.int .i64 a0_6) := (blk_cell BK154.out 6).trans rfl; have hcz4_7 : w3.cell? ⟨gb154, 7, none⟩ = some (.int .i64 a0_7) := (blk_cell BK154.out 7).trans rfl; have hcz4_8 : w3.cell? ⟨gb154, 8, none⟩ = some (.int .i64 a0_8) := (blk_cell BK154.out 8).trans rfl; have hfz4_0 := blk_frozen BK154.out 0; have hfz4_1 := blk_frozen BK154.out 1; have hfz4_2 := blk_frozen BK154.out 2; have hfz4_3 := blk_frozen BK154.out 3; have hfz4_4 := blk_frozen BK154.out 4; have hfz4_5 := blk_frozen BK154.out 5; have hfz4_6 := blk_frozen BK154.out 6; have hfz4_7 := blk_frozen BK154.out 7; have hfz4_8 := blk_frozen BK154.out 8)); go_upto_block 0 with (first | (go_at_call 46; (with_reducible refine (math_Sqrt.calls _ b0 _ AQ.out).mono ?_); rintro e wsq ⟨rfl, hb⟩; have n0_ := Aside0.mk (blk_below (g := gb154) (by (with_reducible repeat (first | refine blk_drewN ?_ _ | refine blk_drew ?_ | refine blk_alloc ?_ _)); exact BK154.out) hb); have n1_ := Aside0.mk (below_step (by repeat (first | (with_reducible first | exact HB.out | apply below_alloc | apply pw_below_drewN | apply below_drew1 | refine below_set ?_ GE154.out) | exact HB.out)) hb); clear BK154 HB hb; have BK154 := n0_; have HB := n1_; clear n0_ n1_) | ((with_reducible refine gate_dst (N := 1) rfl ?_); refine box_event ?hg (N := 1) ?hd (cs := #[.int .i64 a0_0, .int .i64 a0_1, .int .i64 a0_2, .int .i64 a0_3, .int .i64 a0_4, .int .i64 a0_5, .int .i64 a0_6, .int .i64 a0_7, .int .i64 a0_8]) (t := 55) ?hr ?_; (case hd => rfl); (case hg => rfl); (case hr => first | (go_simp; done) | (go_simp; rfl)); intro gb154 hg w3 hbox hb; have n0_ := Aside0.mk (below_step (by repeat (first | (with_reducible first | exact HB.out | apply below_alloc | apply pw_below_drewN | apply below_drew1) | exact HB.out)) hb); have n1_ := Aside0.mk (hbox); have n2_ := Aside0.mk ((by rw [hg]; exact (below_size (by repeat (first | (with_reducible first | exact HB.out | apply below_alloc | apply pw_below_drewN | apply below_drew1) | exact HB.out))) : w.heap.size ≤ gb154)); have n3_ := Aside0.mk ((by rw [hg]; exact (below_size (by repeat (first | (with_reducible first | exact HB.out | apply below_alloc | apply pw_below_drewN | apply below_drew1) | exact HB.out))) : w.heap.size ≤ gb154)); clear HB; have HB := n0_; have BK154 := n1_; have GW154 := n2_; have GE154 := n3_; clear n0_ n1_ n2_ n3_; clear hb hbox hg; have hcz4_0 : w3.cell? ⟨gb154, 0, none⟩ = some (.int .i64 a0_0) := (blk_cell BK154.out 0).trans rfl; have hcz4_1 : w3.cell? ⟨gb154, 1, none⟩ = some (.int .i64 a0_1) := (blk_cell BK154.out 1).trans rfl; have hcz4_2 : w3.cell? ⟨gb154, 2, none⟩ = some (.int .i64 a0_2) := (blk_cell BK154.out 2).trans rfl; have hcz4_3 : w3.cell? ⟨gb154, 3, none⟩ = some (.int .i64 a0_3) := (blk_cell BK154.out 3).trans rfl; have hcz4_4 : w3.cell? ⟨gb154, 4, none⟩ = some (.int .i64 a0_4) := (blk_cell BK154.out 4).trans rfl; have hcz4_5 : w3.cell? ⟨gb154, 5, none⟩ = some (.int .i64 a0_5) := (blk_cell BK154.out 5).trans rfl; have hcz4_6 : w3.cell? ⟨gb154, 6, none⟩ = some (.int .i64 a0_6) := (blk_cell BK154.out 6).trans rfl; have hcz4_7 : w3.cell? ⟨gb154, 7, none⟩ = some (.int .i64 a0_7) := (blk_cell BK154.out 7).trans rfl; have hcz4_8 : w3.cell? ⟨gb154, 8, none⟩ = some (.int .i64 a0_8) := (blk_cell BK154.out 8).trans rfl; have hfz4_0 := blk_frozen BK154.out 0; have hfz4_1 := blk_frozen BK154.out 1; have hfz4_2 := blk_frozen BK154.out 2; have hfz4_3 := blk_frozen BK154.out 3; have hfz4_4 := blk_frozen BK154.out 4; have hfz4_5 := blk_frozen BK154.out 5; have hfz4_6 := blk_frozen BK154.out 6; have hfz4_7 := blk_frozen BK154.out 7; have hfz4_8 := blk_frozen BK154.out 8)))
 (try simp only [Act.put, List.setIfInBounds_toArray, List.set_cons_zero, List.set_cons_succ])
 go_cut [7] (fun v7 wc => ∃ (kq : Nat) (x7_1 : Int), v7 = .int .i64 x7_1 ∧ Aside0 (controller_length.j1 kq (wrap64 ((wrap64 ((wrap64 ((wrap64 (a0_3 - a0_0)) * (wrap64 (a0_3 - a0_0)))) + (wrap64 ((wrap64 (a0_4 - a0_1)) * (wrap64 (a0_4 - a0_1)))))) + (wrap64 ((wrap64 (a0_5 - a0_2)) * (wrap64 (a0_5 - a0_2)))))) x7_1 = some r) ∧ Aside0 (kq ≤ k) ∧ Aside0 (wc.heap[gb154]? = some (.cells #[.int .i64 a0_0, .int .i64 a0_1, .int .i64 a0_2, .int .i64 a0_3, .int .i64 a0_4, .int .i64 a0_5, .int .i64 a0_6, .int .i64 a0_7, .int .i64 a0_8] 55 (0, 0))) ∧ Aside0 (Below w.heap.size w wc))
 case first =>
  have H := HC2.out
  clear HC2
  have H' := Aside0.mk H
  clear H
  go_wp2
  repeat (go_quiet (fail); try go_wp2)
  go_loopg [7] k (fun kq v7 w' => ∃ (x7_1 : Int), v7 = .int .i64 x7_1 ∧ Aside0 (controller_length.l0 kq (wrap64 ((wrap64 ((wrap64 ((wrap64 (a0_3 - a0_0)) * (wrap64 (a0_3 - a0_0)))) + (wrap64 ((wrap64 (a0_4 - a0_1)) * (wrap64 (a0_4 - a0_1)))))) + (wrap64 ((wrap64 (a0_5 - a0_2)) * (wrap64 (a0_5 - a0_2)))))) x7_1 = some r) ∧ Aside0 (kq ≤ k) ∧ Aside0 (w'.heap[gb154]? = some (.cells #[.int .i64 a0_0, .int .i64 a0_1, .int .i64 a0_2, .int .i64 a0_3, .int .i64 a0_4, .int .i64 a0_5, .int .i64 a0_6, .int .i64 a0_7, .int .i64 a0_8] 55 (0, 0))) ∧ Aside0 (Below w.heap.size w w'))
  case atStart => exact ⟨n0, (by first | rfl | (simp; done) | (simp [*]; done)), H', ⟨Nat.le_refl _⟩, ⟨by (with_reducible repeat (first | refine blk_drewN ?_ _ | refine blk_drew ?_ | refine blk_alloc ?_ _)); exact BK154.out⟩, ⟨by repeat (first | (with_reducible first | exact HB.out | apply below_alloc | apply pw_below_drewN | apply below_drew1 | refine below_set ?_ GE154.out) | exact HB.out)⟩⟩
  case round =>
   clear H'
   try clear p2
   try clear c3
   try clear hcz4_0
   try clear hcz4_1
   try clear hcz4_2
   try clear hcz4_3
   try clear hcz4_4
   try clear hcz4_5
   try clear hcz4_6
   try clear hcz4_7
   try clear hcz4_8
   try clear hfz4_0
   try clear hfz4_1
   try clear hfz4_2
   try clear hfz4_3
   try clear hfz4_4
   try clear hfz4_5
   try clear hfz4_6
   try clear hfz4_7
   try clear hfz4_8
   obtain ⟨x7_1, rfl, HA, HK1, BK154, HB⟩ := hrel
   cases gk with
   | zero => exact absurd HA.out (by simp [controller_length.l0])
   | succ k1 =>
    have H := HA.out
    clear HA
    simp only [controller_length.l0] at H
    by_cases c5 : x7_1 > 0
    ·rw [if_pos c5] at H
     have c5b0 : decide (0 < x7_1) = true := decide_eq_true c5
     clear c5
     (first | rw [c5b0] | (simp only [i64_w, i32_w]; rw [c5b0]) | skip)
     by_cases c6 : (wrap64 ((wrap64 (x7_1 - 1)) * (wrap64 (x7_1 - 1)))) ≥ (wrap64 ((wrap64 ((wrap64 ((wrap64 (a0_3 - a0_0)) * (wrap64 (a0_3 - a0_0)))) + (wrap64 ((wrap64 (a0_4 - a0_1)) * (wrap64 (a0_4 - a0_1)))))) + (wrap64 ((wrap64 (a0_5 - a0_2)) * (wrap64 (a0_5 - a0_2))))))
     ·rw [if_pos c6] at H
      have c6b0 : decide ((wrap64 ((wrap64 ((wrap64 ((wrap64 (a0_3 - a0_0)) * (wrap64 (a0_3 - a0_0)))) + (wrap64 ((wrap64 (a0_4 - a0_1)) * (wrap64 (a0_4 - a0_1)))))) + (wrap64 ((wrap64 (a0_5 - a0_2)) * (wrap64 (a0_5 - a0_2)))))) ≤ (wrap64 ((wrap64 (x7_1 - 1)) * (wrap64 (x7_1 - 1))))) = true := decide_eq_true c6
      clear c6
      have H' := Aside0.mk H
      clear H
      go_wp2
      repeat (go_quiet (fail); try go_wp2)
      go_roundg k1
      case measure => have := HK1.out; omega
      case rel => exact ⟨(wrap64 (x7_1 - 1)), (by first | rfl | (simp; done) | (simp [*]; done)), H', ⟨by have := HK1.out; omega⟩, ⟨by (with_reducible repeat (first | refine blk_drewN ?_ _ | refine blk_drew ?_ | refine blk_alloc ?_ _)); exact BK154.out⟩, ⟨by repeat (first | (with_reducible first | exact HB.out | apply below_alloc | apply pw_below_drewN | apply below_drew1 | refine below_set ?_ GE154.out) | exact HB.out)⟩⟩
     ·rw [if_neg c6] at H
      have c6b0 : decide ((wrap64 ((wrap64 ((wrap64 ((wrap64 (a0_3 - a0_0)) * (wrap64 (a0_3 - a0_0)))) + (wrap64 ((wrap64 (a0_4 - a0_1)) * (wrap64 (a0_4 - a0_1)))))) + (wrap64 ((wrap64 (a0_5 - a0_2)) * (wrap64 (a0_5 - a0_2)))))) ≤ (wrap64 ((wrap64 (x7_1 - 1)) * (wrap64 (x7_1 - 1))))) = false := decide_eq_false c6
      clear c6
      have H' := Aside0.mk H
      clear H
      go_wp2
      repeat (go_quiet (fail); try go_wp2)
      go_meet
      case rel => exact ⟨_, (x7_1), (by first | rfl | (simp; done) | (simp [*]; done)), H', ⟨by have := HK1.out; first | omega | exact Nat.le_refl _⟩, ⟨by (with_reducible repeat (first | refine blk_drewN ?_ _ | refine blk_drew ?_ | refine blk_alloc ?_ _)); exact BK154.out⟩, ⟨by repeat (first | (with_reducible first | exact HB.out | apply below_alloc | apply pw_below_drewN | apply below_drew1 | refine below_set ?_ GE154.out) | exact HB.out)⟩⟩
    ·rw [if_neg c5] at H
     have c5b0 : decide (0 < x7_1) = false := decide_eq_false c5
     clear c5
     (first | rw [c5b0] | (simp only [i64_w, i32_w]; rw [c5b0]) | skip)
     have H' := Aside0.mk H
     clear H
     go_wp2
     repeat (go_quiet (fail); try go_wp2)
     go_meet
     case rel => exact ⟨_, (x7_1), (by first | rfl | (simp; done) | (simp [*]; done)), H', ⟨by have := HK1.out; first | omega | exact Nat.le_refl _⟩, ⟨by (with_reducible repeat (first | refine blk_drewN ?_ _ | refine blk_drew ?_ | refine blk_alloc ?_ _)); exact BK154.out⟩, ⟨by repeat (first | (with_reducible first | exact HB.out | apply below_alloc | apply pw_below_drewN | apply below_drew1 | refine below_set ?_ GE154.out) | exact HB.out)⟩⟩
 case rest =>
  clear HC2
  try clear p2
  try clear c3
  try clear c5
  try clear c5b0
  try clear c6
  try clear c6b0
  try clear p6
  try clear hcz4_0
  try clear hcz4_1
  try clear hcz4_2
  try clear hcz4_3
  try clear hcz4_4
  try clear hcz4_5
  try clear hcz4_6
  try clear hcz4_7
  try clear hcz4_8
  try clear hfz4_0
  try clear hfz4_1
  try clear hfz4_2
  try clear hfz4_3
  try clear hfz4_4
  try clear hfz4_5
  try clear hfz4_6
  try clear hfz4_7
  try clear hfz4_8
  try clear p2
  obtain ⟨kq, x7_1, rfl, HA, HJ1, BK154, HB⟩ := hcut
  cases kq with
  | zero => exact absurd HA.out (by simp [controller_length.j1])
  | succ kj1 =>
   have H := HA.out
   clear HA
   simp only [controller_length.j1] at H
   have H' := Aside0.mk H
   clear H
   go_wp2
   repeat (go_quiet (fail); try go_wp2)
   go_loopg [7] kj1 (fun kq v7 w' => ∃ (x7_2 : Int), v7 = .int .i64 x7_2 ∧ Aside0 (controller_length.l1 kq (wrap64 ((wrap64 ((wrap64 ((wrap64 (a0_3 - a0_0)) * (wrap64 (a0_3 - a0_0)))) + (wrap64 ((wrap64 (a0_4 - a0_1)) * (wrap64 (a0_4 - a0_1)))))) + (wrap64 ((wrap64 (a0_5 - a0_2)) * (wrap64 (a0_5 - a0_2)))))) x7_2 = some r) ∧ Aside0 (kq ≤ kj1) ∧ Aside0 (w'.heap[gb154]? = some (.cells #[.int .i64 a0_0, .int .i64 a0_1, .int .i64 a0_2, .int .i64 a0_3, .int .i64 a0_4, .int .i64 a0_5, .int .i64 a0_6, .int .i64 a0_7, .int .i64 a0_8] 55 (0, 0))) ∧ Aside0 (Below w.heap.size w w'))
   case atStart => exact ⟨(x7_1), (by first | rfl | (simp; done) | (simp [*]; done)), H', ⟨Nat.le_refl _⟩, ⟨by (with_reducible repeat (first | refine blk_drewN ?_ _ | refine blk_drew ?_ | refine blk_alloc ?_ _)); exact BK154.out⟩, ⟨by repeat (first | (with_reducible first | exact HB.out | apply below_alloc | apply pw_below_drewN | apply below_drew1 | refine below_set ?_ GE154.out) | exact HB.out)⟩⟩
   case round =>
    clear H'
    try clear p2
    try clear c3
    try clear c5
    try clear c5b0
    try clear c6
    try clear c6b0
    try clear p6
    try clear hcz4_0
    try clear hcz4_1
    try clear hcz4_2
    try clear hcz4_3
    try clear hcz4_4
    try clear hcz4_5
    try clear hcz4_6
    try clear hcz4_7
    try clear hcz4_8
    try clear hfz4_0
    try clear hfz4_1
    try clear hfz4_2
    try clear hfz4_3
    try clear hfz4_4
    try clear hfz4_5
    try clear hfz4_6
    try clear hfz4_7
    try clear hfz4_8
    try clear p2
    try clear p6
    obtain ⟨x7_2, rfl, HA, HK2, BK154, HB⟩ := hrel
    cases gk with
    | zero => exact absurd HA.out (by simp [controller_length.l1])
    | succ k2 =>
     have H := HA.out
     clear HA
     simp only [controller_length.l1] at H
     by_cases c7 : (wrap64 (x7_2 * x7_2)) < (wrap64 ((wrap64 ((wrap64 ((wrap64 (a0_3 - a0_0)) * (wrap64 (a0_3 - a0_0)))) + (wrap64 ((wrap64 (a0_4 - a0_1)) * (wrap64 (a0_4 - a0_1)))))) + (wrap64 ((wrap64 (a0_5 - a0_2)) * (wrap64 (a0_5 - a0_2))))))
     ·rw [if_pos c7] at H
      have c7b0 : decide ((wrap64 (x7_2 * x7_2)) < (wrap64 ((wrap64 ((wrap64 ((wrap64 (a0_3 - a0_0)) * (wrap64 (a0_3 - a0_0)))) + (wrap64 ((wrap64 (a0_4 - a0_1)) * (wrap64 (a0_4 - a0_1)))))) + (wrap64 ((wrap64 (a0_5 - a0_2)) * (wrap64 (a0_5 - a0_2))))))) = true := decide_eq_true c7
      clear c7
      have H' := Aside0.mk H
      clear H
      go_wp2
      repeat (go_quiet (fail); try go_wp2)
      go_roundg k2
      case measure => have := HJ1.out; have := HK2.out; omega
      case rel => exact ⟨(wrap64 (x7_2 + 1)), (by first | rfl | (simp; done) | (simp [*]; done)), H', ⟨by have := HJ1.out; have := HK2.out; omega⟩, ⟨by (with_reducible repeat (first | refine blk_drewN ?_ _ | refine blk_drew ?_ | refine blk_alloc ?_ _)); exact BK154.out⟩, ⟨by repeat (first | (with_reducible first | exact HB.out | apply below_alloc | apply pw_below_drewN | apply below_drew1 | refine below_set ?_ GE154.out) | exact HB.out)⟩⟩
     ·rw [if_neg c7] at H
      have c7b0 : decide ((wrap64 (x7_2 * x7_2)) < (wrap64 ((wrap64 ((wrap64 ((wrap64 (a0_3 - a0_0)) * (wrap64 (a0_3 - a0_0)))) + (wrap64 ((wrap64 (a0_4 - a0_1)) * (wrap64 (a0_4 - a0_1)))))) + (wrap64 ((wrap64 (a0_5 - a0_2)) * (wrap64 (a0_5 - a0_2))))))) = false := decide_eq_false c7
      clear c7
      obtain rfl := Option.some.inj H
      go_wp2
      repeat (go_quiet (fail); try go_wp2)
      go_ret
      exact ⟨by first | rfl | (simp [errW_none, errW_some] <;> rfl) | (simp [*, errW_none, errW_some] <;> rfl), by repeat (first | (with_reducible first | exact HB.out | apply below_alloc | apply pw_below_drewN | apply below_drew1 | refine below_set ?_ GE154.out) | exact HB.out)⟩
end Go.Proofs.Ytmaegpblaihepaa.F
