-- The machine side of a proof, written by a program of the session out of Lean's print of the loaded functions. Lean checks it.
import Derived.Test.YtblonchpophnkaaWc
import Derived.Test.YtblonchpophnkaaFx0
import Derived.Test.YtblonchpophnkaaFx3
import Derived.Test.YtblonchpophnkaaFx4
import Derived.Test.YtblonchpophnkaaFx5
import Derived.Test.YtblonchpophnkaaFx6
namespace Go.Proofs.Ytblonchpophnkaa.F
open Go.RowKit Go.Proofs.YtblonchpophnkaaW.PrintWords Go.Proofs.YtblonchpophnkaaW.PrintLast Go.Proofs.YtblonchpophnkaaW.PrintMore
attribute [local go_sem] max2_int min2_int max_two min_two max_three min_three max_four min_four   -- for this text's walks alone
set_option linter.unusedVariables false
set_option linter.unusedSimpArgs false
mutual
def interpolate_Valid.j0 : Nat → List Int → Option (Int)
 | 0, _ => none
 | k + 1, x5 => interpolate_Valid.l0 k x5 (x5.length : Int) 0
def interpolate_Valid.l0 : Nat → List Int → Int → Int → Option (Int)
 | 0, _, _, _ => none
 | k + 1, x81, x82, x83 => if x83 < x82 then (if 0 ≤ x83 then (if x83 < (x81.length : Int) then ((interpolate_apart.f (rd x81 x83) 0).bind fun t133 => (if t133 > 10000000 then (some 11) else (interpolate_Valid.l0 k x81 x82 (wrap64 (x83 + 1))))) else (none)) else (none)) else (some 0)
end
def interpolate_Valid.f (k : Nat) (a0_0 : Int) (a0_1 : Int) (a0_2 : Int) (a1_0 : Int) (a1_1 : Int) (a1_2 : Int) (a1_3 : Int) (a1_4 : Int) (a1_5 : Int) (a1_6 : Int) : Option (Int) := (interpolate_right.f k a0_0 a0_1 a0_2 a1_0 a1_1 a1_2 a1_3 a1_4 a1_5 a1_6).bind fun t117 => (if t117 = true then ((some (([a0_0, a0_1, a0_2, a1_1, a1_2, a1_3] : List Int) : List Int)).bind fun y118 => ((interpolate_isArc.f a1_0 a1_1 a1_2 a1_3 a1_4 a1_5 a1_6).bind fun t121 => (if t121 = true then ((interpolate_point.f k a0_0 a0_1 a0_2 a1_4 a1_5).bind fun bt122 => (if bt122.2 > 10000000 then (some 11) else ((interpolate_apart.f a1_4 0).bind fun t124 => (if t124 > 10000000 then (some 11) else ((interpolate_apart.f a1_5 0).bind fun t125 => (if t125 > 10000000 then (some 11) else ((some (([wrap64 (a1_4 + (wrap64 (bt122.2))), wrap64 (a1_4 - (wrap64 (bt122.2))), wrap64 (a1_5 + (wrap64 (bt122.2))), wrap64 (a1_5 - (wrap64 (bt122.2)))] : List Int) : List Int)).bind fun y126 => (if y118.length + y126.length < 17592186044416 then (interpolate_Valid.j0 k (y118 ++ y126)) else (none))))))))) else (interpolate_Valid.j0 k y118)))) else (some 1))
theorem interpolate_Valid.mono_l : ∀ k, (∀ y0, LeO (interpolate_Valid.j0 k y0) (interpolate_Valid.j0 (k + 1) y0)) ∧ (∀ y0 y1 y2, LeO (interpolate_Valid.l0 k y0 y1 y2) (interpolate_Valid.l0 (k + 1) y0 y1 y2))
 | 0 => ⟨fun _ r h => by simp [interpolate_Valid.j0] at h, fun _ _ _ r h => by simp [interpolate_Valid.l0] at h⟩
 | k + 1 => by
  obtain ⟨ih0, ih1⟩ := interpolate_Valid.mono_l k
  refine ⟨?_, ?_⟩
  ·intro y0
   unfold interpolate_Valid.j0
   repeat' first
   | (with_reducible exact ih0 _)
   | (with_reducible exact ih1 _ _ _)
   | (with_reducible exact interpolate_point.mono _ _ _ _ _ _)
   | (with_reducible exact interpolate_right.mono _ _ _ _ _ _ _ _ _ _ _)
   | (with_reducible exact LeO.refl _)
   | (with_reducible exact LeO.none _)
   | (with_reducible refine LeO.ite ?_ ?_)
   | (with_reducible refine LeO.bind ?_ (fun _ => ?_))
   | exact ih0 _
   | exact ih1 _ _ _
   | exact interpolate_point.mono _ _ _ _ _ _
   | exact interpolate_right.mono _ _ _ _ _ _ _ _ _ _ _
   | exact LeO.none _
   | refine LeO.ite ?_ ?_
   | refine LeO.bind ?_ (fun _ => ?_)
  ·intro y0 y1 y2
   unfold interpolate_Valid.l0
   repeat' first
   | (with_reducible exact ih0 _)
   | (with_reducible exact ih1 _ _ _)
   | (with_reducible exact interpolate_point.mono _ _ _ _ _ _)
   | (with_reducible exact interpolate_right.mono _ _ _ _ _ _ _ _ _ _ _)
   | (with_reducible exact LeO.refl _)
   | (with_reducible exact LeO.none _)
   | (with_reducible refine LeO.ite ?_ ?_)
   | (with_reducible refine LeO.bind ?_ (fun _ => ?_))
   | exact ih0 _
   | exact ih1 _ _ _
   | exact interpolate_point.mono _ _ _ _ _ _
   | exact interpolate_right.mono _ _ _ _ _ _ _ _ _ _ _
   | exact LeO.none _
   | refine LeO.ite ?_ ?_
   | refine LeO.bind ?_ (fun _ => ?_)
theorem interpolate_Valid.mono : ∀ a0 a1 a2 a3 a4 a5 a6 a7 a8 a9 k, LeO (interpolate_Valid.f k a0 a1 a2 a3 a4 a5 a6 a7 a8 a9) (interpolate_Valid.f (k + 1) a0 a1 a2 a3 a4 a5 a6 a7 a8 a9) := by
 intro a0 a1 a2 a3 a4 a5 a6 a7 a8 a9 k
 obtain ⟨ih0, ih1⟩ := interpolate_Valid.mono_l k
 unfold interpolate_Valid.f
 repeat' first
   | (with_reducible exact ih0 _)
   | (with_reducible exact ih1 _ _ _)
   | (with_reducible exact interpolate_point.mono _ _ _ _ _ _)
   | (with_reducible exact interpolate_right.mono _ _ _ _ _ _ _ _ _ _ _)
   | (with_reducible exact LeO.refl _)
   | (with_reducible exact LeO.none _)
   | (with_reducible refine LeO.ite ?_ ?_)
   | (with_reducible refine LeO.bind ?_ (fun _ => ?_))
   | exact ih0 _
   | exact ih1 _ _ _
   | exact interpolate_point.mono _ _ _ _ _ _
   | exact interpolate_right.mono _ _ _ _ _ _ _ _ _ _ _
   | exact LeO.none _
   | refine LeO.ite ?_ ?_
   | refine LeO.bind ?_ (fun _ => ?_)
set_option maxHeartbeats 8000000 in
set_option maxRecDepth 100000 in
theorem interpolate_Valid.calls (k : Nat) (a0_0 : Int) (a0_1 : Int) (a0_2 : Int) (a1_0 : Int) (a1_1 : Int) (a1_2 : Int) (a1_3 : Int) (a1_4 : Int) (a1_5 : Int) (a1_6 : Int) (r : Int) (w : World) (h : interpolate_Valid.f k a0_0 a0_1 a0_2 a1_0 a1_1 a1_2 a1_3 a1_4 a1_5 a1_6 = some r) :
  Calls Try.prog 14 #[.agg #[.int .i64 a0_0, .int .i64 a0_1, .int .i64 a0_2], .agg #[.int .i64 a1_0, .int .i64 a1_1, .int .i64 a1_2, .int .i64 a1_3, .int .i64 a1_4, .int .i64 a1_5, .int .i64 a1_6]] w fun e w' => e = .returned (.int .i64 r) ∧ Below w.heap.size w w' := by
 have hu23 := Try.underlying23
 have hu27 := Try.underlying27
 have hu25 := Try.underlying25
 have HB := Aside0.mk (Below.refl w.heap.size w)
 have H : ((interpolate_right.f k a0_0 a0_1 a0_2 a1_0 a1_1 a1_2 a1_3 a1_4 a1_5 a1_6).bind fun t117 => (if t117 = true then ((some (([a0_0, a0_1, a0_2, a1_1, a1_2, a1_3] : List Int) : List Int)).bind fun y118 => ((interpolate_isArc.f a1_0 a1_1 a1_2 a1_3 a1_4 a1_5 a1_6).bind fun t121 => (if t121 = true then ((interpolate_point.f k a0_0 a0_1 a0_2 a1_4 a1_5).bind fun bt122 => (if bt122.2 > 10000000 then (some 11) else ((interpolate_apart.f a1_4 0).bind fun t124 => (if t124 > 10000000 then (some 11) else ((interpolate_apart.f a1_5 0).bind fun t125 => (if t125 > 10000000 then (some 11) else ((some (([wrap64 (a1_4 + (wrap64 (bt122.2))), wrap64 (a1_4 - (wrap64 (bt122.2))), wrap64 (a1_5 + (wrap64 (bt122.2))), wrap64 (a1_5 - (wrap64 (bt122.2)))] : List Int) : List Int)).bind fun y126 => (if y118.length + y126.length < 17592186044416 then (interpolate_Valid.j0 k (y118 ++ y126)) else (none))))))))) else (interpolate_Valid.j0 k y118)))) else (some 1))) = some r := h
 clear h
 replace H := Option.bind_eq_some_iff.mp H
 obtain ⟨t117, A30, H⟩ := H
 replace H : (if t117 = true then ((some (([a0_0, a0_1, a0_2, a1_1, a1_2, a1_3] : List Int) : List Int)).bind fun y118 => ((interpolate_isArc.f a1_0 a1_1 a1_2 a1_3 a1_4 a1_5 a1_6).bind fun t121 => (if t121 = true then ((interpolate_point.f k a0_0 a0_1 a0_2 a1_4 a1_5).bind fun bt122 => (if bt122.2 > 10000000 then (some 11) else ((interpolate_apart.f a1_4 0).bind fun t124 => (if t124 > 10000000 then (some 11) else ((interpolate_apart.f a1_5 0).bind fun t125 => (if t125 > 10000000 then (some 11) else ((some (([wrap64 (a1_4 + (wrap64 (bt122.2))), wrap64 (a1_4 - (wrap64 (bt122.2))), wrap64 (a1_5 + (wrap64 (bt122.2))), wrap64 (a1_5 - (wrap64 (bt122.2)))] : List Int) : List Int)).bind fun y126 => (if y118.length + y126.length < 17592186044416 then (interpolate_Valid.j0 k (y118 ++ y126)) else (none))))))))) else (interpolate_Valid.j0 k y118)))) else (some 1)) = some r := H
 have A3 := Aside0.mk A30
 clear A30
 by_cases c4 : t117 = true
 ·subst c4
  have H1 : ((some (([a0_0, a0_1, a0_2, a1_1, a1_2, a1_3] : List Int) : List Int)).bind fun y118 => ((interpolate_isArc.f a1_0 a1_1 a1_2 a1_3 a1_4 a1_5 a1_6).bind fun t121 => (if t121 = true then ((interpolate_point.f k a0_0 a0_1 a0_2 a1_4 a1_5).bind fun bt122 => (if bt122.2 > 10000000 then (some 11) else ((interpolate_apart.f a1_4 0).bind fun t124 => (if t124 > 10000000 then (some 11) else ((interpolate_apart.f a1_5 0).bind fun t125 => (if t125 > 10000000 then (some 11) else ((some (([wrap64 (a1_4 + (wrap64 (bt122.2))), wrap64 (a1_4 - (wrap64 (bt122.2))), wrap64 (a1_5 + (wrap64 (bt122.2))), wrap64 (a1_5 - (wrap64 (bt122.2)))] : List Int) : List Int)).bind fun y126 => (if y118.length + y126.length < 17592186044416 then (interpolate_Valid.j0 k (y118 ++ y126)) else (none))))))))) else (interpolate_Valid.j0 k y118)))) = some r := by rw [if_pos rfl] at H; exact H
  clear H
  have H := H1
  clear H1
  obtain ⟨y118, hy118⟩ : ∃ y_ : List Int, y_ = (([a0_0, a0_1, a0_2, a1_1, a1_2, a1_3] : List Int)) := ⟨_, rfl⟩
  replace H : ((interpolate_isArc.f a1_0 a1_1 a1_2 a1_3 a1_4 a1_5 a1_6).bind fun t121 => (if t121 = true then ((interpolate_point.f k a0_0 a0_1 a0_2 a1_4 a1_5).bind fun bt122 => (if bt122.2 > 10000000 then (some 11) else ((interpolate_apart.f a1_4 0).bind fun t124 => (if t124 > 10000000 then (some 11) else ((interpolate_apart.f a1_5 0).bind fun t125 => (if t125 > 10000000 then (some 11) else ((some (([wrap64 (a1_4 + (wrap64 (bt122.2))), wrap64 (a1_4 - (wrap64 (bt122.2))), wrap64 (a1_5 + (wrap64 (bt122.2))), wrap64 (a1_5 - (wrap64 (bt122.2)))] : List Int) : List Int)).bind fun y126 => (if y118.length + y126.length < 17592186044416 then (interpolate_Valid.j0 k (y118 ++ y126)) else (none))))))))) else (interpolate_Valid.j0 k y118))) = some r := by first | (rw [hy118]; with_reducible exact H) | (have H2_ := (Option.bind_some _ _).symm.trans H; rw [hy118]; with_reducible exact H2_) | (have H2_ := (Option.bind_some _ _).symm.trans H; with_reducible exact H2_) | with_reducible exact H | (rw [hy118]; exact H) | exact H
  have Ny118 := Aside0.mk hy118
  clear hy118
  replace H := Option.bind_eq_some_iff.mp H
  obtain ⟨t121, A50, H⟩ := H
  replace H : (if t121 = true then ((interpolate_point.f k a0_0 a0_1 a0_2 a1_4 a1_5).bind fun bt122 => (if bt122.2 > 10000000 then (some 11) else ((interpolate_apart.f a1_4 0).bind fun t124 => (if t124 > 10000000 then (some 11) else ((interpolate_apart.f a1_5 0).bind fun t125 => (if t125 > 10000000 then (some 11) else ((some (([wrap64 (a1_4 + (wrap64 (bt122.2))), wrap64 (a1_4 - (wrap64 (bt122.2))), wrap64 (a1_5 + (wrap64 (bt122.2))), wrap64 (a1_5 - (wrap64 (bt122.2)))] : List Int) : List Int)).bind fun y126 => (if y118.length + y126.length < 17592186044416 then (interpolate_Valid.j0 k (y118 ++ y126)) else (none))))))))) else (interpolate_Valid.j0 k y118)) = some r := H
  have A5 := Aside0.mk A50
  clear A50
  have HC6 := Aside0.mk H
  clear H
  go_enter Try.func14, Try.ntmps14
  go_upto_if 32 with (first | ((with_reducible refine gate_dst (N := 2) rfl ?_); refine box_event ?hg (N := 2) ?hd (cs := #[.int .i64 a0_0, .int .i64 a0_1, .int .i64 a0_2]) (t := 23) ?hr ?_; (case hd => rfl); (case hg => rfl); (case hr => first | (go_simp; done) | (go_simp; rfl)); intro gb115 hg w7 hbox hb; have n0_ := Aside0.mk (below_step (by first | exact HB.out | exact pw_below_drewN HB.out _) hb); have n1_ := Aside0.mk (hbox); have n2_ := Aside0.mk ((by rw [hg]; exact (below_size (by first | exact HB.out | exact pw_below_drewN HB.out _)) : w.heap.size ≤ gb115)); have n3_ := Aside0.mk ((by rw [hg]; exact (below_size (by first | exact HB.out | exact pw_below_drewN HB.out _)) : w.heap.size ≤ gb115)); clear HB; have HB := n0_; have BK115 := n1_; have GW115 := n2_; have GE115 := n3_; clear n0_ n1_ n2_ n3_; clear hb hbox hg) | ((with_reducible refine gate_dst (N := 3) rfl ?_); refine box_event ?hg (N := 3) ?hd (cs := #[.int .i64 a1_0, .int .i64 a1_1, .int .i64 a1_2, .int .i64 a1_3, .int .i64 a1_4, .int .i64 a1_5, .int .i64 a1_6]) (t := 27) ?hr ?_; (case hd => rfl); (case hg => rfl); (case hr => first | (go_simp; done) | (go_simp; rfl)); intro gb116 hg w8 hbox hb; have n0_ := Aside0.mk (blk_below (by exact BK115.out) hb); have n1_ := Aside0.mk (below_step (by first | exact HB.out | exact pw_below_drewN HB.out _) hb); have n2_ := Aside0.mk (hbox); have n3_ := Aside0.mk ((by rw [hg]; exact (below_size (by first | exact HB.out | exact pw_below_drewN HB.out _)) : w.heap.size ≤ gb116)); have n4_ := Aside0.mk ((by rw [hg]; exact (below_size (by first | exact HB.out | exact pw_below_drewN HB.out _)) : w.heap.size ≤ gb116)); have n5_ := Aside0.mk ((by rw [hg]; exact Nat.ne_of_lt (blk_lt (g := gb115) (o := .cells #[.int .i64 a0_0, .int .i64 a0_1, .int .i64 a0_2] 23 (0, 0)) (by (with_reducible repeat (first | refine blk_drewN ?_ _ | refine blk_drew ?_ | refine blk_alloc ?_ _)); exact BK115.out)) : gb115 ≠ gb116)); have n6_ := Aside0.mk ((by rw [hg]; exact Nat.ne_of_gt (blk_lt (g := gb115) (o := .cells #[.int .i64 a0_0, .int .i64 a0_1, .int .i64 a0_2] 23 (0, 0)) (by (with_reducible repeat (first | refine blk_drewN ?_ _ | refine blk_drew ?_ | refine blk_alloc ?_ _)); exact BK115.out)) : gb116 ≠ gb115)); clear BK115; clear HB; have BK115 := n0_; have HB := n1_; have BK116 := n2_; have GW116 := n3_; have GE116 := n4_; have NB115_116 := n5_; have NB116_115 := n6_; clear n0_ n1_ n2_ n3_ n4_ n5_ n6_; clear hb hbox hg; have hnb9 := NB115_116.out; have hnc9 := NB116_115.out; obtain ⟨hcz10_0, hcz10_1, hcz10_2⟩ := cells3 BK115.out; obtain ⟨hcz11_0, hcz11_1, hcz11_2, hcz11_3, hcz11_4, hcz11_5, hcz11_6⟩ := cells7 BK116.out) | ((with_reducible refine gate_callee (f := 33) rfl ?_); refine goesL_ (some 13) rfl rfl Try.func33 (by kernel_rfl) rfl #[.agg #[.int .i64 a0_0, .int .i64 a0_1, .int .i64 a0_2], .agg #[.int .i64 a1_0, .int .i64 a1_1, .int .i64 a1_2, .int .i64 a1_3, .int .i64 a1_4, .int .i64 a1_5, .int .i64 a1_6]] rfl (by (try simp only [List.map_toArray, List.map_cons, List.map_nil]); first | done | rfl | (simp only [List.length_drop, List.length_take]; rfl)) ?_; (with_reducible refine (interpolate_right.calls k a0_0 a0_1 a0_2 a1_0 a1_1 a1_2 a1_3 a1_4 a1_5 a1_6 true _ A3.out).mono ?_); rintro e w12 ⟨rfl, hb⟩; refine ⟨_, rfl, ?_⟩; have n0_ := Aside0.mk (blk_below (by exact BK115.out) hb); have n1_ := Aside0.mk (blk_below (by exact BK116.out) hb); have n2_ := Aside0.mk (below_step (by first | exact HB.out | exact pw_below_drewN HB.out _) hb); clear BK115; clear BK116; clear HB; have BK115 := n0_; have BK116 := n1_; have HB := n2_; clear n0_ n1_ n2_; (try clear hb); (try clear hb2); (try clear hk); (try clear hi); obtain ⟨hcz13_0, hcz13_1, hcz13_2⟩ := cells3 BK115.out; obtain ⟨hcz14_0, hcz14_1, hcz14_2, hcz14_3, hcz14_4, hcz14_5, hcz14_6⟩ := cells7 BK116.out) | ((with_reducible refine gate_dst (N := 30) rfl ?_); refine Kd.R_lit (Kd.int .i64) _ 2 ?hg (N := 30) ?hd (xs := ([a0_0, a0_1, a0_2, a1_1, a1_2, a1_3] : List Int)) (inner := [.int .i64 a0_0, .int .i64 a0_1, .int .i64 a0_2, .int .i64 a1_1, .int .i64 a1_2, .int .i64 a1_3]) (ok := fun _ => True) (okp := fun _ => True) ?hr ?hp (fun _ hk => hk) trivial (Below.refl _ _) (Nat.le_refl _) (by simp) ?_; (case hd => rfl); (case hg => rfl); (case hr => first | (go_simp; done) | (go_simp; rfl)); (case hp => exact (Reps.one (show Kd.M (Kd.int .i64) _ _ _ a0_0 [.int .i64 a0_0] from rfl) (Reps.one (show Kd.M (Kd.int .i64) _ _ _ a0_1 [.int .i64 a0_1] from rfl) (Reps.one (show Kd.M (Kd.int .i64) _ _ _ a0_2 [.int .i64 a0_2] from rfl) (Reps.one (show Kd.M (Kd.int .i64) _ _ _ a1_1 [.int .i64 a1_1] from rfl) (Reps.one (show Kd.M (Kd.int .i64) _ _ _ a1_2 [.int .i64 a1_2] from rfl) (Reps.one (show Kd.M (Kd.int .i64) _ _ _ a1_3 [.int .i64 a1_3] from rfl) (Reps.none _ _)))))))); intro v119 w15 ho16 hb hg_ hnew_; clear hg_ hnew_; (first | rw [← Ny118.out] at ho16 | (simp only [Int.reduceToNat] at ho16; rw [← Ny118.out] at ho16)); have n0_ := Aside0.mk (Kd.R_lower ho16 (below_size (by first | exact HB.out | exact pw_below_drewN HB.out _))); have n1_ := Aside0.mk (blk_below (by exact BK115.out) hb); have n2_ := Aside0.mk (blk_below (by exact BK116.out) hb); have n3_ := Aside0.mk (below_step (by first | exact HB.out | exact pw_below_drewN HB.out _) hb); clear BK115; clear BK116; clear HB; have HO120 := n0_; have BK115 := n1_; have BK116 := n2_; have HB := n3_; clear n0_ n1_ n2_ n3_; clear hb ho16; obtain ⟨hcz17_0, hcz17_1, hcz17_2, hcz17_3, hcz17_4, hcz17_5, hcz17_6⟩ := cells7 BK116.out) | ((with_reducible refine gate_callee (f := 29) rfl ?_); refine goesL_ (some 32) rfl rfl Try.func29 (by kernel_rfl) rfl #[.agg #[.int .i64 a1_0, .int .i64 a1_1, .int .i64 a1_2, .int .i64 a1_3, .int .i64 a1_4, .int .i64 a1_5, .int .i64 a1_6]] rfl (by (try simp only [List.map_toArray, List.map_cons, List.map_nil]); first | done | rfl | (simp only [List.length_drop, List.length_take]; rfl)) ?_; (with_reducible refine (interpolate_isArc.calls a1_0 a1_1 a1_2 a1_3 a1_4 a1_5 a1_6 t121 _ A5.out).mono ?_); rintro e w18 ⟨rfl, hb⟩; refine ⟨_, rfl, ?_⟩; have n0_ := Aside0.mk (Kd.R_below (by first | exact HO120.out | exact Kd.R_drewN HO120.out _) hb); have n1_ := Aside0.mk (blk_below (by exact BK115.out) hb); have n2_ := Aside0.mk (blk_below (by exact BK116.out) hb); have n3_ := Aside0.mk (below_step (by first | exact HB.out | exact pw_below_drewN HB.out _) hb); clear HO120; clear BK115; clear BK116; clear HB; have HO120 := n0_; have BK115 := n1_; have BK116 := n2_; have HB := n3_; clear n0_ n1_ n2_ n3_; (try clear hb); (try clear hb2); (try clear hk); (try clear hi)))
  (try simp only [Act.put, List.setIfInBounds_toArray, List.set_cons_zero, List.set_cons_succ])
  go_cut [5] (fun v5 wc => ∃ (kq : Nat) (x5_5 : List Int), Aside0 (interpolate_Valid.j0 kq x5_5 = some r) ∧ Aside0 (kq ≤ k) ∧ Aside0 (Kd.R (Kd.int .i64) 2 wc w.heap.size (fun _ => True) v5 x5_5) ∧ Aside0 (wc.heap[gb115]? = some (.cells #[.int .i64 a0_0, .int .i64 a0_1, .int .i64 a0_2] 23 (0, 0))) ∧ Aside0 (wc.heap[gb116]? = some (.cells #[.int .i64 a1_0, .int .i64 a1_1, .int .i64 a1_2, .int .i64 a1_3, .int .i64 a1_4, .int .i64 a1_5, .int .i64 a1_6] 27 (0, 0))) ∧ Aside0 (Below w.heap.size w wc))
  case first =>
   have H := HC6.out
   clear HC6
   by_cases c19 : t121 = true
   ·subst c19
    have H1 : ((interpolate_point.f k a0_0 a0_1 a0_2 a1_4 a1_5).bind fun bt122 => (if bt122.2 > 10000000 then (some 11) else ((interpolate_apart.f a1_4 0).bind fun t124 => (if t124 > 10000000 then (some 11) else ((interpolate_apart.f a1_5 0).bind fun t125 => (if t125 > 10000000 then (some 11) else ((some (([wrap64 (a1_4 + (wrap64 (bt122.2))), wrap64 (a1_4 - (wrap64 (bt122.2))), wrap64 (a1_5 + (wrap64 (bt122.2))), wrap64 (a1_5 - (wrap64 (bt122.2)))] : List Int) : List Int)).bind fun y126 => (if y118.length + y126.length < 17592186044416 then (interpolate_Valid.j0 k (y118 ++ y126)) else (none))))))))) = some r := by rw [if_pos rfl] at H; exact H
    clear H
    have H := H1
    clear H1
    replace H := Option.bind_eq_some_iff.mp H
    obtain ⟨⟨t122, t123⟩, A200, H⟩ := H
    replace H : (if t123 > 10000000 then (some 11) else ((interpolate_apart.f a1_4 0).bind fun t124 => (if t124 > 10000000 then (some 11) else ((interpolate_apart.f a1_5 0).bind fun t125 => (if t125 > 10000000 then (some 11) else ((some (([wrap64 (a1_4 + (wrap64 (t123))), wrap64 (a1_4 - (wrap64 (t123))), wrap64 (a1_5 + (wrap64 (t123))), wrap64 (a1_5 - (wrap64 (t123)))] : List Int) : List Int)).bind fun y126 => (if y118.length + y126.length < 17592186044416 then (interpolate_Valid.j0 k (y118 ++ y126)) else (none)))))))) = some r := H
    have A20 := Aside0.mk A200
    clear A200
    by_cases c21 : t123 > 10000000
    ·rw [if_pos c21] at H
     have c21b0 : decide (10000000 < t123) = true := decide_eq_true c21
     clear c21
     (first | rw [c21b0] | (simp only [i64_w, i32_w]; rw [c21b0]) | skip)
     obtain rfl := Option.some.inj H
     have hnb22 := NB115_116.out
     have hnc22 := NB116_115.out
     obtain ⟨hcz23_0, hcz23_1, hcz23_2⟩ := cells3 BK115.out
     obtain ⟨hcz24_0, hcz24_1, hcz24_2, hcz24_3, hcz24_4, hcz24_5, hcz24_6⟩ := cells7 BK116.out
     go_wp2_with (first | ((with_reducible refine gate_callee (f := 30) rfl ?_); refine goesL_ (some 37) rfl rfl Try.func30 (by kernel_rfl) rfl #[.agg #[.int .i64 a0_0, .int .i64 a0_1, .int .i64 a0_2], .agg #[.int .i64 a1_4, .int .i64 a1_5]] rfl (by (try simp only [List.map_toArray, List.map_cons, List.map_nil]); first | done | rfl | (simp only [List.length_drop, List.length_take]; rfl)) ?_; (with_reducible refine (interpolate_point.calls k a0_0 a0_1 a0_2 a1_4 a1_5 t122 t123 _ A20.out).mono ?_); rintro e w25 ⟨rfl, hb⟩; refine ⟨_, rfl, ?_⟩; have n0_ := Aside0.mk (Kd.R_below (by first | exact HO120.out | exact Kd.R_drewN HO120.out _) hb); have n1_ := Aside0.mk (blk_below (by exact BK115.out) hb); have n2_ := Aside0.mk (blk_below (by exact BK116.out) hb); have n3_ := Aside0.mk (below_step (by first | exact HB.out | exact pw_below_drewN HB.out _) hb); clear HO120; clear BK115; clear BK116; clear HB; have HO120 := n0_; have BK115 := n1_; have BK116 := n2_; have HB := n3_; clear n0_ n1_ n2_ n3_; (try clear hb); (try clear hb2); (try clear hk); (try clear hi)))
     go_ret
     exact ⟨by first | rfl | (simp [errW_none, errW_some] <;> rfl) | (simp [*, errW_none, errW_some] <;> rfl), by repeat (first | (with_reducible first | exact HB.out | apply below_alloc | apply pw_below_drewN | apply below_drew1 | refine below_set ?_ GE115.out | refine below_set ?_ GE116.out) | exact HB.out)⟩
    ·rw [if_neg c21] at H
     have c21b0 : decide (10000000 < t123) = false := decide_eq_false c21
     clear c21
     (first | rw [c21b0] | (simp only [i64_w, i32_w]; rw [c21b0]) | skip)
     replace H := Option.bind_eq_some_iff.mp H
     obtain ⟨t124, A260, H⟩ := H
     replace H : (if t124 > 10000000 then (some 11) else ((interpolate_apart.f a1_5 0).bind fun t125 => (if t125 > 10000000 then (some 11) else ((some (([wrap64 (a1_4 + (wrap64 (t123))), wrap64 (a1_4 - (wrap64 (t123))), wrap64 (a1_5 + (wrap64 (t123))), wrap64 (a1_5 - (wrap64 (t123)))] : List Int) : List Int)).bind fun y126 => (if y118.length + y126.length < 17592186044416 then (interpolate_Valid.j0 k (y118 ++ y126)) else (none)))))) = some r := H
     have A26 := Aside0.mk A260
     clear A260
     by_cases c27 : t124 > 10000000
     ·rw [if_pos c27] at H
      have c27b0 : decide (10000000 < t124) = true := decide_eq_true c27
      clear c27
      obtain rfl := Option.some.inj H
      have hnb28 := NB115_116.out
      have hnc28 := NB116_115.out
      obtain ⟨hcz29_0, hcz29_1, hcz29_2⟩ := cells3 BK115.out
      obtain ⟨hcz30_0, hcz30_1, hcz30_2, hcz30_3, hcz30_4, hcz30_5, hcz30_6⟩ := cells7 BK116.out
      go_wp2_with (first | ((with_reducible refine gate_callee (f := 30) rfl ?_); refine goesL_ (some 37) rfl rfl Try.func30 (by kernel_rfl) rfl #[.agg #[.int .i64 a0_0, .int .i64 a0_1, .int .i64 a0_2], .agg #[.int .i64 a1_4, .int .i64 a1_5]] rfl (by (try simp only [List.map_toArray, List.map_cons, List.map_nil]); first | done | rfl | (simp only [List.length_drop, List.length_take]; rfl)) ?_; (with_reducible refine (interpolate_point.calls k a0_0 a0_1 a0_2 a1_4 a1_5 t122 t123 _ A20.out).mono ?_); rintro e w31 ⟨rfl, hb⟩; refine ⟨_, rfl, ?_⟩; have n0_ := Aside0.mk (Kd.R_below (by first | exact HO120.out | exact Kd.R_drewN HO120.out _) hb); have n1_ := Aside0.mk (blk_below (by exact BK115.out) hb); have n2_ := Aside0.mk (blk_below (by exact BK116.out) hb); have n3_ := Aside0.mk (below_step (by first | exact HB.out | exact pw_below_drewN HB.out _) hb); clear HO120; clear BK115; clear BK116; clear HB; have HO120 := n0_; have BK115 := n1_; have BK116 := n2_; have HB := n3_; clear n0_ n1_ n2_ n3_; (try clear hb); (try clear hb2); (try clear hk); (try clear hi); obtain ⟨hcz32_0, hcz32_1, hcz32_2, hcz32_3, hcz32_4, hcz32_5, hcz32_6⟩ := cells7 BK116.out) | (go_at_call 34; (with_reducible refine (interpolate_apart.calls a1_4 0 t124 _ A26.out).mono ?_); rintro e w' ⟨rfl, ⟨nd, rfl⟩⟩))
      go_ret
      exact ⟨by first | rfl | (simp [errW_none, errW_some] <;> rfl) | (simp [*, errW_none, errW_some] <;> rfl), by repeat (first | (with_reducible first | exact HB.out | apply below_alloc | apply pw_below_drewN | apply below_drew1 | refine below_set ?_ GE115.out | refine below_set ?_ GE116.out) | exact HB.out)⟩
     ·rw [if_neg c27] at H
      have c27b0 : decide (10000000 < t124) = false := decide_eq_false c27
      clear c27
      replace H := Option.bind_eq_some_iff.mp H
      obtain ⟨t125, A330, H⟩ := H
      replace H : (if t125 > 10000000 then (some 11) else ((some (([wrap64 (a1_4 + (wrap64 (t123))), wrap64 (a1_4 - (wrap64 (t123))), wrap64 (a1_5 + (wrap64 (t123))), wrap64 (a1_5 - (wrap64 (t123)))] : List Int) : List Int)).bind fun y126 => (if y118.length + y126.length < 17592186044416 then (interpolate_Valid.j0 k (y118 ++ y126)) else (none)))) = some r := H
      have A33 := Aside0.mk A330
      clear A330
      by_cases c34 : t125 > 10000000
      ·rw [if_pos c34] at H
       have c34b0 : decide (10000000 < t125) = true := decide_eq_true c34
       clear c34
       obtain rfl := Option.some.inj H
       have hnb35 := NB115_116.out
       have hnc35 := NB116_115.out
       obtain ⟨hcz36_0, hcz36_1, hcz36_2⟩ := cells3 BK115.out
       obtain ⟨hcz37_0, hcz37_1, hcz37_2, hcz37_3, hcz37_4, hcz37_5, hcz37_6⟩ := cells7 BK116.out
       go_wp2_with (first | ((with_reducible refine gate_callee (f := 30) rfl ?_); refine goesL_ (some 37) rfl rfl Try.func30 (by kernel_rfl) rfl #[.agg #[.int .i64 a0_0, .int .i64 a0_1, .int .i64 a0_2], .agg #[.int .i64 a1_4, .int .i64 a1_5]] rfl (by (try simp only [List.map_toArray, List.map_cons, List.map_nil]); first | done | rfl | (simp only [List.length_drop, List.length_take]; rfl)) ?_; (with_reducible refine (interpolate_point.calls k a0_0 a0_1 a0_2 a1_4 a1_5 t122 t123 _ A20.out).mono ?_); rintro e w38 ⟨rfl, hb⟩; refine ⟨_, rfl, ?_⟩; have n0_ := Aside0.mk (Kd.R_below (by first | exact HO120.out | exact Kd.R_drewN HO120.out _) hb); have n1_ := Aside0.mk (blk_below (by exact BK115.out) hb); have n2_ := Aside0.mk (blk_below (by exact BK116.out) hb); have n3_ := Aside0.mk (below_step (by first | exact HB.out | exact pw_below_drewN HB.out _) hb); clear HO120; clear BK115; clear BK116; clear HB; have HO120 := n0_; have BK115 := n1_; have BK116 := n2_; have HB := n3_; clear n0_ n1_ n2_ n3_; (try clear hb); (try clear hb2); (try clear hk); (try clear hi); obtain ⟨hcz39_0, hcz39_1, hcz39_2, hcz39_3, hcz39_4, hcz39_5, hcz39_6⟩ := cells7 BK116.out) | (go_at_call 34; (with_reducible refine (interpolate_apart.calls a1_4 0 t124 _ A26.out).mono ?_); rintro e w' ⟨rfl, ⟨nd, rfl⟩⟩) | (go_at_call 34; (with_reducible refine (interpolate_apart.calls a1_5 0 t125 _ A33.out).mono ?_); rintro e w' ⟨rfl, ⟨nd, rfl⟩⟩))
       go_ret
       exact ⟨by first | rfl | (simp [errW_none, errW_some] <;> rfl) | (simp [*, errW_none, errW_some] <;> rfl), by repeat (first | (with_reducible first | exact HB.out | apply below_alloc | apply pw_below_drewN | apply below_drew1 | refine below_set ?_ GE115.out | refine below_set ?_ GE116.out) | exact HB.out)⟩
      ·rw [if_neg c34] at H
       have c34b0 : decide (10000000 < t125) = false := decide_eq_false c34
       clear c34
       obtain ⟨y126, hy126⟩ : ∃ y_ : List Int, y_ = (([wrap64 (a1_4 + (wrap64 (t123))), wrap64 (a1_4 - (wrap64 (t123))), wrap64 (a1_5 + (wrap64 (t123))), wrap64 (a1_5 - (wrap64 (t123)))] : List Int)) := ⟨_, rfl⟩
       replace H : (if y118.length + y126.length < 17592186044416 then (interpolate_Valid.j0 k (y118 ++ y126)) else (none)) = some r := by first | (rw [hy126]; with_reducible exact H) | (have H2_ := (Option.bind_some _ _).symm.trans H; rw [hy126]; with_reducible exact H2_) | (have H2_ := (Option.bind_some _ _).symm.trans H; with_reducible exact H2_) | with_reducible exact H | (rw [hy126]; exact H) | exact H
       have Ny126 := Aside0.mk hy126
       clear hy126
       by_cases c40 : y118.length + y126.length < 17592186044416
       ·rw [if_pos c40] at H
        have LMc40 := Aside0.mk c40
        clear c40
        obtain ⟨y129, hy129⟩ : ∃ y_ : List Int, y_ = (y118 ++ y126) := ⟨_, rfl⟩
        replace H : (interpolate_Valid.j0 k y129) = some r := by first | (rw [hy129]; with_reducible exact H) | (have H2_ := (Option.bind_some _ _).symm.trans H; rw [hy129]; with_reducible exact H2_) | (have H2_ := (Option.bind_some _ _).symm.trans H; with_reducible exact H2_) | with_reducible exact H | (rw [hy129]; exact H) | exact H
        have Ny129 := Aside0.mk hy129
        clear hy129
        have H' := Aside0.mk H
        clear H
        have hnb41 := NB115_116.out
        have hnc41 := NB116_115.out
        obtain ⟨hcz42_0, hcz42_1, hcz42_2⟩ := cells3 BK115.out
        obtain ⟨hcz43_0, hcz43_1, hcz43_2, hcz43_3, hcz43_4, hcz43_5, hcz43_6⟩ := cells7 BK116.out
        go_wp2_with (first | ((with_reducible refine gate_callee (f := 30) rfl ?_); refine goesL_ (some 37) rfl rfl Try.func30 (by kernel_rfl) rfl #[.agg #[.int .i64 a0_0, .int .i64 a0_1, .int .i64 a0_2], .agg #[.int .i64 a1_4, .int .i64 a1_5]] rfl (by (try simp only [List.map_toArray, List.map_cons, List.map_nil]); first | done | rfl | (simp only [List.length_drop, List.length_take]; rfl)) ?_; (with_reducible refine (interpolate_point.calls k a0_0 a0_1 a0_2 a1_4 a1_5 t122 t123 _ A20.out).mono ?_); rintro e w44 ⟨rfl, hb⟩; refine ⟨_, rfl, ?_⟩; have n0_ := Aside0.mk (Kd.R_below (by first | exact HO120.out | exact Kd.R_drewN HO120.out _) hb); have n1_ := Aside0.mk (blk_below (by exact BK115.out) hb); have n2_ := Aside0.mk (blk_below (by exact BK116.out) hb); have n3_ := Aside0.mk (below_step (by first | exact HB.out | exact pw_below_drewN HB.out _) hb); clear HO120; clear BK115; clear BK116; clear HB; have HO120 := n0_; have BK115 := n1_; have BK116 := n2_; have HB := n3_; clear n0_ n1_ n2_ n3_; (try clear hb); (try clear hb2); (try clear hk); (try clear hi); obtain ⟨hcz45_0, hcz45_1, hcz45_2, hcz45_3, hcz45_4, hcz45_5, hcz45_6⟩ := cells7 BK116.out) | (go_at_call 34; (with_reducible refine (interpolate_apart.calls a1_4 0 t124 _ A26.out).mono ?_); rintro e w' ⟨rfl, ⟨nd, rfl⟩⟩) | (go_at_call 34; (with_reducible refine (interpolate_apart.calls a1_5 0 t125 _ A33.out).mono ?_); rintro e w' ⟨rfl, ⟨nd, rfl⟩⟩) | ((with_reducible refine gate_dst (N := 79) rfl ?_); refine Kd.R_lit (Kd.int .i64) _ 2 ?hg (N := 79) ?hd (xs := ([wrap64 (a1_4 + (wrap64 (t123))), wrap64 (a1_4 - (wrap64 (t123))), wrap64 (a1_5 + (wrap64 (t123))), wrap64 (a1_5 - (wrap64 (t123)))] : List Int)) (inner := [.int .i64 (wrap64 (a1_4 + (wrap64 (t123)))), .int .i64 (wrap64 (a1_4 - (wrap64 (t123)))), .int .i64 (wrap64 (a1_5 + (wrap64 (t123)))), .int .i64 (wrap64 (a1_5 - (wrap64 (t123))))]) (ok := fun _ => True) (okp := fun _ => True) ?hr ?hp (fun _ hk => hk) trivial (Below.refl _ _) (Nat.le_refl _) (by simp) ?_; (case hd => rfl); (case hg => rfl); (case hr => first | (go_simp; done) | (go_simp; rfl)); (case hp => exact (Reps.one (show Kd.M (Kd.int .i64) _ _ _ (wrap64 (a1_4 + (wrap64 (t123)))) [.int .i64 (wrap64 (a1_4 + (wrap64 (t123))))] from rfl) (Reps.one (show Kd.M (Kd.int .i64) _ _ _ (wrap64 (a1_4 - (wrap64 (t123)))) [.int .i64 (wrap64 (a1_4 - (wrap64 (t123))))] from rfl) (Reps.one (show Kd.M (Kd.int .i64) _ _ _ (wrap64 (a1_5 + (wrap64 (t123)))) [.int .i64 (wrap64 (a1_5 + (wrap64 (t123))))] from rfl) (Reps.one (show Kd.M (Kd.int .i64) _ _ _ (wrap64 (a1_5 - (wrap64 (t123)))) [.int .i64 (wrap64 (a1_5 - (wrap64 (t123))))] from rfl) (Reps.none _ _)))))); intro v127 w46 ho47 hb hg_ hnew_; clear hg_ hnew_; (first | rw [← Ny126.out] at ho47 | (simp only [Int.reduceToNat] at ho47; rw [← Ny126.out] at ho47)); have n0_ := Aside0.mk (Kd.R_elder' (by (with_reducible repeat (first | apply Kd.R_alloc | apply Kd.R_drewN | apply Kd.R_drew)); exact HO120.out) (Kd.R_base ho47) hb); have n1_ := Aside0.mk (Kd.R_lower (Kd.R_new' ho47 (Kd.R_lt (by (with_reducible repeat (first | apply Kd.R_alloc | apply Kd.R_drewN | apply Kd.R_drew)); exact HO120.out))) (below_size (by first | exact HB.out | exact pw_below_drewN HB.out _))); have n2_ := Aside0.mk (blk_below (by exact BK115.out) hb); have n3_ := Aside0.mk (blk_below (by exact BK116.out) hb); have n4_ := Aside0.mk (below_step (by first | exact HB.out | exact pw_below_drewN HB.out _) hb); clear HO120; clear BK115; clear BK116; clear HB; have HO120 := n0_; have HO128 := n1_; have BK115 := n2_; have BK116 := n3_; have HB := n4_; clear n0_ n1_ n2_ n3_ n4_; clear hb ho47; obtain ⟨Ao49, co49, eo49⟩ := Kd.R_slice HO128.out; subst eo49) | ((with_reducible refine gate_builtin (b := .append) (xs := #[.tmp 58, .tmp 79]) rfl ?_); at_builtin; refine Kd.R_append_rows (Kd.int .i64) (w0 := w) w.heap.size rfl (.tmp 58) (.tmp 79) 58 2 (.int .i64 0) 8 rfl Try.underlying58 info2 rfl (by decide) (by omega) v119 y118 y126 _ _ _ (fun k_ => some k_ ≠ (.slice Ao49 y126.length co49 : Value).ownBlock) (fun _ => False) rfl rfl ?aO ?aR (fun _ _ h => h) (fun _ h => h.elim) ?aF ?aB ?aS ?aL ?_; (case aR => repeat (first | exact (Kd.R_reads' HO128.out).2.2 | (with_reducible refine Kd.C_alloc ?_ _) | (with_reducible refine Kd.C_drewN ?_ _) | (with_reducible refine Kd.C_drew ?_))); (case aB => exact (by repeat (first | (with_reducible first | exact HB.out | apply below_alloc | apply pw_below_drewN | apply below_drew1 | refine below_set ?_ GE115.out | refine below_set ?_ GE116.out) | exact HB.out))); (case aF => exact (fun k_ hk => Kd.fresh' (Kd.R_lt (by (with_reducible repeat (first | apply Kd.R_alloc | apply Kd.R_drewN | apply Kd.R_drew)); exact HO128.out)) k_ hk)); (case aO => exact (by (with_reducible repeat (first | apply Kd.R_alloc | apply Kd.R_drewN | apply Kd.R_drew)); exact Kd.R_mono HO120.out (fun _ hk => hk.2))); (case aS => exact (below_size (by first | exact HB.out | exact pw_below_drewN HB.out _))); (case aL => have := LMc40.out; omega); intro v130 w48 ho hb hg hat; rw [← Ny129.out] at ho; have n0_ := Aside0.mk (blk_grown (g := gb115) (o := .cells #[.int .i64 a0_0, .int .i64 a0_1, .int .i64 a0_2] 23 (0, 0)) (by (with_reducible repeat (first | refine blk_drewN ?_ _ | refine blk_drew ?_ | refine blk_alloc ?_ _)); exact BK115.out) hg (Kd.R_ne HO120.out BK115.out (by decide))); have n1_ := Aside0.mk (blk_grown (g := gb116) (o := .cells #[.int .i64 a1_0, .int .i64 a1_1, .int .i64 a1_2, .int .i64 a1_3, .int .i64 a1_4, .int .i64 a1_5, .int .i64 a1_6] 27 (0, 0)) (by (with_reducible repeat (first | refine blk_drewN ?_ _ | refine blk_drew ?_ | refine blk_alloc ?_ _)); exact BK116.out) hg (Kd.R_ne HO120.out BK116.out (by decide))); have n2_ := Aside0.mk (Kd.R_after (ok := (fun _ => True)) (by (with_reducible repeat (first | apply Kd.R_alloc | apply Kd.R_drewN | apply Kd.R_drew)); exact HO128.out) hg hat); have n3_ := Aside0.mk (hb); have n4_ := Aside0.mk (ho); clear BK115; clear BK116; clear HO128; clear HB; clear HO120; have BK115 := n0_; have BK116 := n1_; have HO128 := n2_; have HB := n3_; have HO131 := n4_; clear n0_ n1_ n2_ n3_ n4_; clear ho hb hg hat))
        go_meet
        case rel => exact ⟨_, (y129), H', ⟨by first | omega | exact Nat.le_refl _⟩, ⟨by (with_reducible repeat (first | apply Kd.R_alloc | apply Kd.R_drewN | apply Kd.R_drew)); exact Kd.R_mono HO131.out (fun _ hk => trivial)⟩, ⟨by (with_reducible repeat (first | refine blk_drewN ?_ _ | refine blk_drew ?_ | refine blk_alloc ?_ _)); exact BK115.out⟩, ⟨by (with_reducible repeat (first | refine blk_drewN ?_ _ | refine blk_drew ?_ | refine blk_alloc ?_ _)); exact BK116.out⟩, ⟨by repeat (first | (with_reducible first | exact HB.out | apply below_alloc | apply pw_below_drewN | apply below_drew1 | refine below_set ?_ GE115.out | refine below_set ?_ GE116.out) | exact HB.out)⟩⟩
       ·rw [if_neg c40] at H
        exact absurd H (by simp)
   ·replace c19 := Bool.eq_false_iff.mpr c19
    subst c19
    have H1 : (interpolate_Valid.j0 k y118) = some r := by rw [if_neg (show ¬ (false = true) by decide)] at H; exact H
    clear H
    have H := H1
    clear H1
    have H' := Aside0.mk H
    clear H
    go_wp2
    go_meet
    case rel => exact ⟨_, (y118), H', ⟨by first | omega | exact Nat.le_refl _⟩, ⟨by (with_reducible repeat (first | apply Kd.R_alloc | apply Kd.R_drewN | apply Kd.R_drew)); exact HO120.out⟩, ⟨by (with_reducible repeat (first | refine blk_drewN ?_ _ | refine blk_drew ?_ | refine blk_alloc ?_ _)); exact BK115.out⟩, ⟨by (with_reducible repeat (first | refine blk_drewN ?_ _ | refine blk_drew ?_ | refine blk_alloc ?_ _)); exact BK116.out⟩, ⟨by repeat (first | (with_reducible first | exact HB.out | apply below_alloc | apply pw_below_drewN | apply below_drew1 | refine below_set ?_ GE115.out | refine below_set ?_ GE116.out) | exact HB.out)⟩⟩
  case rest =>
   clear HC6
   try clear c1
   try clear c2
   try clear p2
   try clear c3
   try clear c4
   try clear p6
   try clear c9
   try clear c14
   try clear c19
   try clear c21
   try clear c21b0
   try clear c22
   try clear c27
   try clear c27b0
   try clear c28
   try clear c29
   try clear c30
   try clear c33
   try clear c34
   try clear c34b0
   try clear c35
   try clear c40
   try clear c41
   try clear hcz10_0
   try clear hcz10_1
   try clear hcz10_2
   try clear hcz11_0
   try clear hcz11_1
   try clear hcz11_2
   try clear hcz11_3
   try clear hcz11_4
   try clear hcz11_5
   try clear hcz11_6
   try clear hcz13_0
   try clear hcz13_1
   try clear hcz13_2
   try clear hcz14_0
   try clear hcz14_1
   try clear hcz14_2
   try clear hcz14_3
   try clear hcz14_4
   try clear hcz14_5
   try clear hcz14_6
   try clear hcz17_0
   try clear hcz17_1
   try clear hcz17_2
   try clear hcz17_3
   try clear hcz17_4
   try clear hcz17_5
   try clear hcz17_6
   obtain ⟨kq, x5_5, HA, HJ5, HO_5, BK115, BK116, HB⟩ := hcut
   cases kq with
   | zero => exact absurd HA.out (by simp [interpolate_Valid.j0])
   | succ kj5 =>
    have H := HA.out
    clear HA
    simp only [interpolate_Valid.j0] at H
    have H' := Aside0.mk H
    clear H
    obtain ⟨Ao50, co50, eo50⟩ := Kd.R_slice HO_5.out
    subst eo50
    go_wp2
    go_loopg [83] kj5 (fun kq v83 w' => ∃ (x83_2 : Int), v83 = .int .i64 x83_2 ∧ Aside0 (interpolate_Valid.l0 kq x5_5 (x5_5.length : Int) x83_2 = some r) ∧ Aside0 (kq ≤ kj5) ∧ Aside0 (Kd.R (Kd.int .i64) 2 w' w.heap.size (fun _ => True) (.slice Ao50 x5_5.length co50) x5_5) ∧ Aside0 (w'.heap[gb115]? = some (.cells #[.int .i64 a0_0, .int .i64 a0_1, .int .i64 a0_2] 23 (0, 0))) ∧ Aside0 (w'.heap[gb116]? = some (.cells #[.int .i64 a1_0, .int .i64 a1_1, .int .i64 a1_2, .int .i64 a1_3, .int .i64 a1_4, .int .i64 a1_5, .int .i64 a1_6] 27 (0, 0))) ∧ Aside0 (Below w.heap.size w w'))
    case atStart => exact ⟨(0), (by first | rfl | (simp; done) | (simp [*]; done)), H', ⟨Nat.le_refl _⟩, ⟨by (with_reducible repeat (first | apply Kd.R_alloc | apply Kd.R_drewN | apply Kd.R_drew)); exact HO_5.out⟩, ⟨by (with_reducible repeat (first | refine blk_drewN ?_ _ | refine blk_drew ?_ | refine blk_alloc ?_ _)); exact BK115.out⟩, ⟨by (with_reducible repeat (first | refine blk_drewN ?_ _ | refine blk_drew ?_ | refine blk_alloc ?_ _)); exact BK116.out⟩, ⟨by repeat (first | (with_reducible first | exact HB.out | apply below_alloc | apply pw_below_drewN | apply below_drew1 | refine below_set ?_ GE115.out | refine below_set ?_ GE116.out) | exact HB.out)⟩⟩
    case round =>
     clear H'
     try clear c1
     try clear c2
     try clear p2
     try clear c3
     try clear c4
     try clear p6
     try clear c9
     try clear c14
     try clear c19
     try clear c21
     try clear c21b0
     try clear c22
     try clear c27
     try clear c27b0
     try clear c28
     try clear c29
     try clear c30
     try clear c33
     try clear c34
     try clear c34b0
     try clear c35
     try clear c40
     try clear c41
     try clear hcz10_0
     try clear hcz10_1
     try clear hcz10_2
     try clear hcz11_0
     try clear hcz11_1
     try clear hcz11_2
     try clear hcz11_3
     try clear hcz11_4
     try clear hcz11_5
     try clear hcz11_6
     try clear hcz13_0
     try clear hcz13_1
     try clear hcz13_2
     try clear hcz14_0
     try clear hcz14_1
     try clear hcz14_2
     try clear hcz14_3
     try clear hcz14_4
     try clear hcz14_5
     try clear hcz14_6
     try clear hcz17_0
     try clear hcz17_1
     try clear hcz17_2
     try clear hcz17_3
     try clear hcz17_4
     try clear hcz17_5
     try clear hcz17_6
     try clear p2
     try clear p6
     obtain ⟨x83_2, rfl, HA, HK2, HO_81, BK115, BK116, HB⟩ := hrel
     cases gk with
     | zero => exact absurd HA.out (by simp [interpolate_Valid.l0])
     | succ k2 =>
      have H := HA.out
      clear HA
      simp only [interpolate_Valid.l0] at H
      by_cases c51 : x83_2 < (x5_5.length : Int)
      ·rw [if_pos c51] at H
       have c51b0 : decide (x83_2 < (x5_5.length : Int)) = true := decide_eq_true c51
       clear c51
       by_cases c52 : 0 ≤ x83_2
       ·rw [if_pos c52] at H
        have c52b0 : decide (0 ≤ x83_2) = true := decide_eq_true c52
        clear c52
        by_cases c53 : x83_2 < (x5_5.length : Int)
        ·rw [if_pos c53] at H
         have c53b0 : decide (x83_2 < (x5_5.length : Int)) = true := decide_eq_true c53
         clear c53
         replace H := Option.bind_eq_some_iff.mp H
         obtain ⟨t133, A540, H⟩ := H
         replace H : (if t133 > 10000000 then (some 11) else (interpolate_Valid.l0 k2 x5_5 (x5_5.length : Int) (wrap64 (x83_2 + 1)))) = some r := H
         have A54 := Aside0.mk A540
         clear A540
         by_cases c55 : t133 > 10000000
         ·rw [if_pos c55] at H
          have c55b0 : decide (10000000 < t133) = true := decide_eq_true c55
          clear c55
          obtain rfl := Option.some.inj H
          have p132 : 0 ≤ (x83_2 : Int) := of_decide_eq_true (by first | (with_reducible assumption) | assumption)
          have q132 : x83_2 < (x5_5.length : Int) := of_decide_eq_true (by first | (with_reducible assumption) | assumption)
          obtain ⟨ad132, e132, hx132_0⟩ := Kd.at_int (Kd.R_reads' HO_81.out).2.2 x83_2 p132 q132
          cases e132
          replace p132 := eq_true p132
          replace q132 := eq_true q132
          go_wp2_with (first | ((with_reducible refine gate_callee (f := 34) rfl ?_); refine goesL_ (some 88) rfl rfl Try.func34 (by kernel_rfl) rfl #[.int .i64 (rd x5_5 x83_2), .int .i64 0] rfl (by (try simp only [List.map_toArray, List.map_cons, List.map_nil]); first | done | rfl | (simp only [List.length_drop, List.length_take]; rfl)) ?_; (with_reducible refine (interpolate_apart.calls (rd x5_5 x83_2) 0 t133 _ A54.out).mono ?_); rintro e w' ⟨rfl, ⟨nd, rfl⟩⟩; refine ⟨_, rfl, ?_⟩))
          go_ret
          exact ⟨by first | rfl | (simp [errW_none, errW_some] <;> rfl) | (simp [*, errW_none, errW_some] <;> rfl), by repeat (first | (with_reducible first | exact HB.out | apply below_alloc | apply pw_below_drewN | apply below_drew1 | refine below_set ?_ GE115.out | refine below_set ?_ GE116.out) | exact HB.out)⟩
         ·rw [if_neg c55] at H
          have c55b0 : decide (10000000 < t133) = false := decide_eq_false c55
          clear c55
          have H' := Aside0.mk H
          clear H
          have p132 : 0 ≤ (x83_2 : Int) := of_decide_eq_true (by first | (with_reducible assumption) | assumption)
          have q132 : x83_2 < (x5_5.length : Int) := of_decide_eq_true (by first | (with_reducible assumption) | assumption)
          obtain ⟨ad132, e132, hx132_0⟩ := Kd.at_int (Kd.R_reads' HO_81.out).2.2 x83_2 p132 q132
          cases e132
          replace p132 := eq_true p132
          replace q132 := eq_true q132
          go_wp2_with (first | ((with_reducible refine gate_callee (f := 34) rfl ?_); refine goesL_ (some 88) rfl rfl Try.func34 (by kernel_rfl) rfl #[.int .i64 (rd x5_5 x83_2), .int .i64 0] rfl (by (try simp only [List.map_toArray, List.map_cons, List.map_nil]); first | done | rfl | (simp only [List.length_drop, List.length_take]; rfl)) ?_; (with_reducible refine (interpolate_apart.calls (rd x5_5 x83_2) 0 t133 _ A54.out).mono ?_); rintro e w' ⟨rfl, ⟨nd, rfl⟩⟩; refine ⟨_, rfl, ?_⟩))
          go_roundg k2
          case measure => have := HJ5.out; have := HK2.out; omega
          case rel => exact ⟨(wrap64 (x83_2 + 1)), (by first | rfl | (simp; done) | (simp [*]; done)), H', ⟨by have := HJ5.out; have := HK2.out; omega⟩, ⟨by (with_reducible repeat (first | apply Kd.R_alloc | apply Kd.R_drewN | apply Kd.R_drew)); exact HO_81.out⟩, ⟨by (with_reducible repeat (first | refine blk_drewN ?_ _ | refine blk_drew ?_ | refine blk_alloc ?_ _)); exact BK115.out⟩, ⟨by (with_reducible repeat (first | refine blk_drewN ?_ _ | refine blk_drew ?_ | refine blk_alloc ?_ _)); exact BK116.out⟩, ⟨by repeat (first | (with_reducible first | exact HB.out | apply below_alloc | apply pw_below_drewN | apply below_drew1 | refine below_set ?_ GE115.out | refine below_set ?_ GE116.out) | exact HB.out)⟩⟩
        ·rw [if_neg c53] at H
         exact absurd H (by simp)
       ·rw [if_neg c52] at H
        exact absurd H (by simp)
      ·rw [if_neg c51] at H
       have c51b0 : decide (x83_2 < (x5_5.length : Int)) = false := decide_eq_false c51
       clear c51
       obtain rfl := Option.some.inj H
       go_wp2
       go_ret
       exact ⟨by first | rfl | (simp [errW_none, errW_some] <;> rfl) | (simp [*, errW_none, errW_some] <;> rfl), by repeat (first | (with_reducible first | exact HB.out | apply below_alloc | apply pw_below_drewN | apply below_drew1 | refine below_set ?_ GE115.out | refine below_set ?_ GE116.out) | exact HB.out)⟩
 ·replace c4 := Bool.eq_false_iff.mpr c4
  subst c4
  have H1 : (some 1) = some r := by rw [if_neg (show ¬ (false = true) by decide)] at H; exact H
  clear H
  have H := H1
  clear H1
  obtain rfl := Option.some.inj H
  go_enter Try.func14, Try.ntmps14
  go_wp2_with (first | ((with_reducible refine gate_dst (N := 2) rfl ?_); refine box_event ?hg (N := 2) ?hd (cs := #[.int .i64 a0_0, .int .i64 a0_1, .int .i64 a0_2]) (t := 23) ?hr ?_; (case hd => rfl); (case hg => rfl); (case hr => first | (go_simp; done) | (go_simp; rfl)); intro gb115 hg w56 hbox hb; have n0_ := Aside0.mk (below_step (by first | exact HB.out | exact pw_below_drewN HB.out _) hb); have n1_ := Aside0.mk (hbox); have n2_ := Aside0.mk ((by rw [hg]; exact (below_size (by first | exact HB.out | exact pw_below_drewN HB.out _)) : w.heap.size ≤ gb115)); have n3_ := Aside0.mk ((by rw [hg]; exact (below_size (by first | exact HB.out | exact pw_below_drewN HB.out _)) : w.heap.size ≤ gb115)); clear HB; have HB := n0_; have BK115 := n1_; have GW115 := n2_; have GE115 := n3_; clear n0_ n1_ n2_ n3_; clear hb hbox hg) | ((with_reducible refine gate_dst (N := 3) rfl ?_); refine box_event ?hg (N := 3) ?hd (cs := #[.int .i64 a1_0, .int .i64 a1_1, .int .i64 a1_2, .int .i64 a1_3, .int .i64 a1_4, .int .i64 a1_5, .int .i64 a1_6]) (t := 27) ?hr ?_; (case hd => rfl); (case hg => rfl); (case hr => first | (go_simp; done) | (go_simp; rfl)); intro gb116 hg w57 hbox hb; have n0_ := Aside0.mk (blk_below (by exact BK115.out) hb); have n1_ := Aside0.mk (below_step (by first | exact HB.out | exact pw_below_drewN HB.out _) hb); have n2_ := Aside0.mk (hbox); have n3_ := Aside0.mk ((by rw [hg]; exact (below_size (by first | exact HB.out | exact pw_below_drewN HB.out _)) : w.heap.size ≤ gb116)); have n4_ := Aside0.mk ((by rw [hg]; exact (below_size (by first | exact HB.out | exact pw_below_drewN HB.out _)) : w.heap.size ≤ gb116)); have n5_ := Aside0.mk ((by rw [hg]; exact Nat.ne_of_lt (blk_lt (g := gb115) (o := .cells #[.int .i64 a0_0, .int .i64 a0_1, .int .i64 a0_2] 23 (0, 0)) (by (with_reducible repeat (first | refine blk_drewN ?_ _ | refine blk_drew ?_ | refine blk_alloc ?_ _)); exact BK115.out)) : gb115 ≠ gb116)); have n6_ := Aside0.mk ((by rw [hg]; exact Nat.ne_of_gt (blk_lt (g := gb115) (o := .cells #[.int .i64 a0_0, .int .i64 a0_1, .int .i64 a0_2] 23 (0, 0)) (by (with_reducible repeat (first | refine blk_drewN ?_ _ | refine blk_drew ?_ | refine blk_alloc ?_ _)); exact BK115.out)) : gb116 ≠ gb115)); clear BK115; clear HB; have BK115 := n0_; have HB := n1_; have BK116 := n2_; have GW116 := n3_; have GE116 := n4_; have NB115_116 := n5_; have NB116_115 := n6_; clear n0_ n1_ n2_ n3_ n4_ n5_ n6_; clear hb hbox hg; have hnb58 := NB115_116.out; have hnc58 := NB116_115.out; obtain ⟨hcz59_0, hcz59_1, hcz59_2⟩ := cells3 BK115.out; obtain ⟨hcz60_0, hcz60_1, hcz60_2, hcz60_3, hcz60_4, hcz60_5, hcz60_6⟩ := cells7 BK116.out) | ((with_reducible refine gate_callee (f := 33) rfl ?_); refine goesL_ (some 13) rfl rfl Try.func33 (by kernel_rfl) rfl #[.agg #[.int .i64 a0_0, .int .i64 a0_1, .int .i64 a0_2], .agg #[.int .i64 a1_0, .int .i64 a1_1, .int .i64 a1_2, .int .i64 a1_3, .int .i64 a1_4, .int .i64 a1_5, .int .i64 a1_6]] rfl (by (try simp only [List.map_toArray, List.map_cons, List.map_nil]); first | done | rfl | (simp only [List.length_drop, List.length_take]; rfl)) ?_; (with_reducible refine (interpolate_right.calls k a0_0 a0_1 a0_2 a1_0 a1_1 a1_2 a1_3 a1_4 a1_5 a1_6 false _ A3.out).mono ?_); rintro e w61 ⟨rfl, hb⟩; refine ⟨_, rfl, ?_⟩; have n0_ := Aside0.mk (blk_below (by exact BK115.out) hb); have n1_ := Aside0.mk (blk_below (by exact BK116.out) hb); have n2_ := Aside0.mk (below_step (by first | exact HB.out | exact pw_below_drewN HB.out _) hb); clear BK115; clear BK116; clear HB; have BK115 := n0_; have BK116 := n1_; have HB := n2_; clear n0_ n1_ n2_; (try clear hb); (try clear hb2); (try clear hk); (try clear hi)))
  go_ret
  exact ⟨by first | rfl | (simp [errW_none, errW_some] <;> rfl) | (simp [*, errW_none, errW_some] <;> rfl), by repeat (first | (with_reducible first | exact HB.out | apply below_alloc | apply pw_below_drewN | apply below_drew1 | refine below_set ?_ GE115.out | refine below_set ?_ GE116.out) | exact HB.out)⟩
end Go.Proofs.Ytblonchpophnkaa.F
