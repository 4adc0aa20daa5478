-- The machine side of a proof, written by a program of the session out of Lean's print of the loaded functions. Lean checks it.
import Derived.Test.YtblonchpophnkaaWc
import Derived.Test.YtblonchpophnkaaFx0
import Derived.Test.YtblonchpophnkaaFx15
import Derived.Test.YtblonchpophnkaaFx20
import Derived.Test.YtblonchpophnkaaFx26
import Derived.Test.YtblonchpophnkaaFx27
import Derived.Test.YtblonchpophnkaaFx28
namespace Go.Proofs.Ytblonchpophnkaa.F
open Go.RowKit Go.Proofs.YtblonchpophnkaaW.PrintWords Go.Proofs.YtblonchpophnkaaW.PrintLast Go.Proofs.YtblonchpophnkaaW.PrintMore
attribute [local go_sem] max2_int min2_int max_two min_two max_three min_three max_four min_four   -- for this text's walks alone
set_option linter.unusedVariables false
set_option linter.unusedSimpArgs false
def swarfref33_Arc.l0 : Nat → Int → Int → Int → Int → List (S23) → Int → Int → Int → Int → Int → Int → Int → Int → Int → Int → Int → Option ((List (S23)) × Int)
 | 0, _, _, _, _, _, _, _, _, _, _, _, _, _, _, _, _ => none
 | k + 1, x8, x9, x10, x11, x12, x13, x240000, x240001, x240002, x241000, x241001, x241002, x241003, x241004, x241005, x241006 => if x13 < x11 then (if x10 = 0 then (none) else (if (wrap64 ((wrap64 (x10 * x10)) + (wrap64 ((wrap64 ((Int.tmod x13 x10) + 1)) * (wrap64 ((Int.tmod x13 x10) + 1)))))) = 0 then (none) else (if x241000 = 3 then ((swarfref33_turned.f k (wrap64 (Int.tdiv (wrap64 (x9 * (wrap64 ((wrap64 (x10 * x10)) - (wrap64 ((wrap64 ((Int.tmod x13 x10) + 1)) * (wrap64 ((Int.tmod x13 x10) + 1)))))))) (wrap64 ((wrap64 (x10 * x10)) + (wrap64 ((wrap64 ((Int.tmod x13 x10) + 1)) * (wrap64 ((Int.tmod x13 x10) + 1)))))))) (wrap64 (-(wrap64 (Int.tdiv (wrap64 ((wrap64 ((wrap64 (2 * x9)) * (wrap64 ((Int.tmod x13 x10) + 1)))) * x10)) (wrap64 ((wrap64 (x10 * x10)) + (wrap64 ((wrap64 ((Int.tmod x13 x10) + 1)) * (wrap64 ((Int.tmod x13 x10) + 1)))))))))) (Int.tmod (wrap64 (x8 + (wrap64 (3 * (wrap64 (Int.tdiv x13 x10)))))) 4)).bind fun bt246 => ((swarfref33_down.f (wrap64 ((wrap64 (x241003 - x240002)) * (wrap64 (x13 + 1)))) x11).bind fun t248 => (if x12.length < 5864062014805 then (swarfref33_Arc.l0 k x8 x9 x10 x11 (x12 ++ [(⟨wrap64 (x241004 + bt246.1), wrap64 (x241005 + bt246.2), wrap64 (x240002 + t248)⟩ : S23)]) (wrap64 (x13 + 1)) x240000 x240001 x240002 x241000 x241001 x241002 x241003 x241004 x241005 x241006) else (none)))) else ((swarfref33_turned.f k (wrap64 (Int.tdiv (wrap64 (x9 * (wrap64 ((wrap64 (x10 * x10)) - (wrap64 ((wrap64 ((Int.tmod x13 x10) + 1)) * (wrap64 ((Int.tmod x13 x10) + 1)))))))) (wrap64 ((wrap64 (x10 * x10)) + (wrap64 ((wrap64 ((Int.tmod x13 x10) + 1)) * (wrap64 ((Int.tmod x13 x10) + 1)))))))) (wrap64 (Int.tdiv (wrap64 ((wrap64 ((wrap64 (2 * x9)) * (wrap64 ((Int.tmod x13 x10) + 1)))) * x10)) (wrap64 ((wrap64 (x10 * x10)) + (wrap64 ((wrap64 ((Int.tmod x13 x10) + 1)) * (wrap64 ((Int.tmod x13 x10) + 1)))))))) (Int.tmod (wrap64 (x8 + (wrap64 (Int.tdiv x13 x10)))) 4)).bind fun bt252 => ((swarfref33_down.f (wrap64 ((wrap64 (x241003 - x240002)) * (wrap64 (x13 + 1)))) x11).bind fun t254 => (if x12.length < 5864062014805 then (swarfref33_Arc.l0 k x8 x9 x10 x11 (x12 ++ [(⟨wrap64 (x241004 + bt252.1), wrap64 (x241005 + bt252.2), wrap64 (x240002 + t254)⟩ : S23)]) (wrap64 (x13 + 1)) x240000 x240001 x240002 x241000 x241001 x241002 x241003 x241004 x241005 x241006) else (none))))))) else (if (x12.length : Int) > 20000 then (some (([] : List (S23)), 3)) else (some (x12, 0)))
def swarfref33_Arc.f (k : Nat) (a0_0 : Int) (a0_1 : Int) (a0_2 : Int) (a1_0 : Int) (a1_1 : Int) (a1_2 : Int) (a1_3 : Int) (a1_4 : Int) (a1_5 : Int) (a1_6 : Int) : Option ((List (S23)) × Int) := (swarfref33_Quarters.f k a0_0 a0_1 a0_2 a1_0 a1_1 a1_2 a1_3 a1_4 a1_5 a1_6).bind fun bt241 => (if bt241.2 = 0 then ((swarfref33_quadrant.f k (wrap64 (a0_0 - a1_4)) (wrap64 (a0_1 - a1_5))).bind fun bt243 => ((swarfref33_Chords.f k bt243.2).bind fun t245 => (swarfref33_Arc.l0 k bt243.1 bt243.2 t245 (wrap64 (bt241.1 * t245)) ([] : List (S23)) 0 a0_0 a0_1 a0_2 a1_0 a1_1 a1_2 a1_3 a1_4 a1_5 a1_6))) else (some (([] : List (S23)), bt241.2)))
theorem swarfref33_Arc.mono_l : ∀ k, (∀ y0 y1 y2 y3 y4 y5 y6 y7 y8 y9 y10 y11 y12 y13 y14 y15, LeO (swarfref33_Arc.l0 k y0 y1 y2 y3 y4 y5 y6 y7 y8 y9 y10 y11 y12 y13 y14 y15) (swarfref33_Arc.l0 (k + 1) y0 y1 y2 y3 y4 y5 y6 y7 y8 y9 y10 y11 y12 y13 y14 y15))
 | 0 => fun _ _ _ _ _ _ _ _ _ _ _ _ _ _ _ _ r h => by simp [swarfref33_Arc.l0] at h
 | k + 1 => by
  have ih0 := swarfref33_Arc.mono_l k
  ·intro y0 y1 y2 y3 y4 y5 y6 y7 y8 y9 y10 y11 y12 y13 y14 y15
   unfold swarfref33_Arc.l0
   repeat' first
   | (with_reducible exact ih0 _ _ _ _ _ _ _ _ _ _ _ _ _ _ _ _)
   | (with_reducible exact swarfref33_Chords.mono _ _)
   | (with_reducible exact swarfref33_Quarters.mono _ _ _ _ _ _ _ _ _ _ _)
   | (with_reducible exact swarfref33_quadrant.mono _ _ _)
   | (with_reducible exact swarfref33_turned.mono _ _ _ _)
   | (with_reducible exact LeO.refl _)
   | (with_reducible exact LeO.none _)
   | (with_reducible refine LeO.ite ?_ ?_)
   | (with_reducible refine LeO.bind ?_ (fun _ => ?_))
   | exact ih0 _ _ _ _ _ _ _ _ _ _ _ _ _ _ _ _
   | exact swarfref33_Chords.mono _ _
   | exact swarfref33_Quarters.mono _ _ _ _ _ _ _ _ _ _ _
   | exact swarfref33_quadrant.mono _ _ _
   | exact swarfref33_turned.mono _ _ _ _
   | exact LeO.none _
   | refine LeO.ite ?_ ?_
   | refine LeO.bind ?_ (fun _ => ?_)
theorem swarfref33_Arc.mono : ∀ a0 a1 a2 a3 a4 a5 a6 a7 a8 a9 k, LeO (swarfref33_Arc.f k a0 a1 a2 a3 a4 a5 a6 a7 a8 a9) (swarfref33_Arc.f (k + 1) a0 a1 a2 a3 a4 a5 a6 a7 a8 a9) := by
 intro a0 a1 a2 a3 a4 a5 a6 a7 a8 a9 k
 have ih0 := swarfref33_Arc.mono_l k
 unfold swarfref33_Arc.f
 repeat' first
   | (with_reducible exact ih0 _ _ _ _ _ _ _ _ _ _ _ _ _ _ _ _)
   | (with_reducible exact swarfref33_Chords.mono _ _)
   | (with_reducible exact swarfref33_Quarters.mono _ _ _ _ _ _ _ _ _ _ _)
   | (with_reducible exact swarfref33_quadrant.mono _ _ _)
   | (with_reducible exact swarfref33_turned.mono _ _ _ _)
   | (with_reducible exact LeO.refl _)
   | (with_reducible exact LeO.none _)
   | (with_reducible refine LeO.ite ?_ ?_)
   | (with_reducible refine LeO.bind ?_ (fun _ => ?_))
   | exact ih0 _ _ _ _ _ _ _ _ _ _ _ _ _ _ _ _
   | exact swarfref33_Chords.mono _ _
   | exact swarfref33_Quarters.mono _ _ _ _ _ _ _ _ _ _ _
   | exact swarfref33_quadrant.mono _ _ _
   | exact swarfref33_turned.mono _ _ _ _
   | exact LeO.none _
   | refine LeO.ite ?_ ?_
   | refine LeO.bind ?_ (fun _ => ?_)
def swarfref33_Arc.T12 : Bool × List (List Nat × List Nat) := (true, [([], []), ([], []), ([], []), ([1, 2], [1, 2]), ([], []), ([], []), ([4, 5], [4, 5]), ([3, 6], [3, 6]), ([0, 7], [0, 7]), ([], []), ([], []), ([9, 10], [9, 10]), ([], []), ([], []), ([12, 13], [12, 13]), ([11, 14], [11, 14]), ([8, 15], [8, 15]), ([], []), ([17], [17]), ([], []), ([18, 19], [18, 19]), ([], []), ([20, 21], [20, 21]), ([], []), ([], []), ([23, 24], [23, 24]), ([], []), ([], []), ([26, 27], [26, 27]), ([25, 28], [25, 28]), ([22, 29], [22, 29]), ([16, 0, 1, 2, 3, 4, 5, 6, 7, 8, 9, 10, 11, 12, 13, 14, 15, 16], [16]), ([30, 31, 0, 1, 2, 3, 4, 5, 6, 7, 8, 9, 10, 11, 12, 13, 14, 15, 16, 17, 18, 19, 20, 21, 22, 23, 24, 25, 26, 27, 28, 29, 30, 31], [30])])
def swarfref33_Arc.B12 : List Nat := [0, 0, 0, 6, 0, 0, 48, 126, 255, 0, 0, 1536, 0, 0, 12288, 32256, 65535, 0, 131072, 0, 917504, 0, 4063232, 0, 0, 25165824, 0, 0, 201326592, 528482304, 1073610752, 131071, 4294967295]
theorem swarfref33_Arc.tab12 : rtab .any (opsOf Try.f19 12) = swarfref33_Arc.T12 := by kernel_rfl
theorem swarfref33_Arc.bits12 : waitsOk swarfref33_Arc.T12.2 swarfref33_Arc.B12 = true := by kernel_rfl
def swarfref33_Arc.T18 : Bool × List (List Nat × List Nat) := (true, [([], []), ([], []), ([1], [1]), ([2], [2]), ([], []), ([3, 4], [3, 4]), ([], []), ([6], [6]), ([7], [7]), ([], []), ([8, 9], [8, 9]), ([], []), ([11], [11]), ([], []), ([13], [13]), ([14], [14]), ([], []), ([16], [16]), ([15, 17], [15, 17]), ([], []), ([19], [19]), ([18, 20], [18, 20]), ([], []), ([21, 22], [21, 22]), ([12, 23], [12, 23]), ([5, 10, 24], [5, 10, 24]), ([25], [25]), ([0, 26, 23], [0, 26]), ([27, 27, 0, 1, 2, 3, 4, 5, 6, 7, 8, 9, 10, 11, 12, 13, 14, 15, 16, 17, 18, 19, 20, 21, 22, 23, 24, 25, 26, 27], [0, 27])])
def swarfref33_Arc.B18 : List Nat := [0, 0, 2, 6, 0, 30, 0, 64, 192, 0, 960, 0, 2048, 0, 8192, 24576, 0, 65536, 253952, 0, 524288, 2088960, 0, 8380416, 16775168, 33554430, 67108862, 134217727, 268435455]
theorem swarfref33_Arc.tab18 : rtab .any (opsOf Try.f19 18) = swarfref33_Arc.T18 := by kernel_rfl
theorem swarfref33_Arc.bits18 : waitsOk swarfref33_Arc.T18.2 swarfref33_Arc.B18 = true := by kernel_rfl
set_option maxHeartbeats 8000000 in
set_option maxRecDepth 100000 in
theorem swarfref33_Arc.calls (k : Nat) (a0_0 : Int) (a0_1 : Int) (a0_2 : Int) (a1_0 : Int) (a1_1 : Int) (a1_2 : Int) (a1_3 : Int) (a1_4 : Int) (a1_5 : Int) (a1_6 : Int) (r1 : List (S23)) (r2 : Int) (w : World) (h : swarfref33_Arc.f k a0_0 a0_1 a0_2 a1_0 a1_1 a1_2 a1_3 a1_4 a1_5 a1_6 = some (r1, r2)) :
  Calls Try.prog 19 #[.agg #[.int .i64 a0_0, .int .i64 a0_1, .int .i64 a0_2], .agg #[.int .i64 a1_0, .int .i64 a1_1, .int .i64 a1_2, .int .i64 a1_3, .int .i64 a1_4, .int .i64 a1_5, .int .i64 a1_6]] w fun e w' => ∃ v0_ : Value, e = .returned (.tuple #[v0_, .int .i64 r2]) ∧ Kd.R k23 23 w' w.heap.size (fun _ => True) v0_ r1 ∧ Below w.heap.size w w' := by
 have hu23 := Try.underlying23
 have hu27 := Try.underlying27
 have HB := Aside0.mk (Below.refl w.heap.size w)
 have H : ((swarfref33_Quarters.f k a0_0 a0_1 a0_2 a1_0 a1_1 a1_2 a1_3 a1_4 a1_5 a1_6).bind fun bt241 => (if bt241.2 = 0 then ((swarfref33_quadrant.f k (wrap64 (a0_0 - a1_4)) (wrap64 (a0_1 - a1_5))).bind fun bt243 => ((swarfref33_Chords.f k bt243.2).bind fun t245 => (swarfref33_Arc.l0 k bt243.1 bt243.2 t245 (wrap64 (bt241.1 * t245)) ([] : List (S23)) 0 a0_0 a0_1 a0_2 a1_0 a1_1 a1_2 a1_3 a1_4 a1_5 a1_6))) else (some (([] : List (S23)), bt241.2)))) = some (r1, r2) := h
 clear h
 replace H := Option.bind_eq_some_iff.mp H
 obtain ⟨⟨t241, t242⟩, A30, H⟩ := H
 replace H : (if t242 = 0 then ((swarfref33_quadrant.f k (wrap64 (a0_0 - a1_4)) (wrap64 (a0_1 - a1_5))).bind fun bt243 => ((swarfref33_Chords.f k bt243.2).bind fun t245 => (swarfref33_Arc.l0 k bt243.1 bt243.2 t245 (wrap64 (t241 * t245)) ([] : List (S23)) 0 a0_0 a0_1 a0_2 a1_0 a1_1 a1_2 a1_3 a1_4 a1_5 a1_6))) else (some (([] : List (S23)), t242))) = some (r1, r2) := H
 have A3 := Aside0.mk A30
 clear A30
 by_cases c4 : t242 = 0
 ·rw [if_pos c4] at H
  have c4b0 : (t242 == 0) = true := beq_iff_eq.mpr c4
  have c4b1 : (t242 != 0) = false := bne_eq_false_iff_eq.mpr c4
  clear c4
  replace H := Option.bind_eq_some_iff.mp H
  obtain ⟨⟨t243, t244⟩, A50, H⟩ := H
  replace H : ((swarfref33_Chords.f k t244).bind fun t245 => (swarfref33_Arc.l0 k t243 t244 t245 (wrap64 (t241 * t245)) ([] : List (S23)) 0 a0_0 a0_1 a0_2 a1_0 a1_1 a1_2 a1_3 a1_4 a1_5 a1_6)) = some (r1, r2) := H
  have A5 := Aside0.mk A50
  clear A50
  replace H := Option.bind_eq_some_iff.mp H
  obtain ⟨t245, A60, H⟩ := H
  replace H : (swarfref33_Arc.l0 k t243 t244 t245 (wrap64 (t241 * t245)) ([] : List (S23)) 0 a0_0 a0_1 a0_2 a1_0 a1_1 a1_2 a1_3 a1_4 a1_5 a1_6) = some (r1, r2) := H
  have A6 := Aside0.mk A60
  clear A60
  have H' := Aside0.mk H
  clear H
  go_enter Try.func19, Try.ntmps19
  go_wp2_with (first | ((with_reducible refine gate_dst (N := 2) rfl ?_); refine box_event ?hg (N := 2) ?hd (cs := #[.int .i64 a0_0, .int .i64 a0_1, .int .i64 a0_2]) (t := 23) ?hr ?_; (case hd => rfl); (case hg => rfl); (case hr => first | (go_simp; done) | (go_simp; rfl)); intro gb239 hg w7 hbox hb; have n0_ := Aside0.mk (below_step (by first | exact HB.out | exact pw_below_drewN HB.out _) hb); have n1_ := Aside0.mk (hbox); have n2_ := Aside0.mk ((by rw [hg]; exact (below_size (by first | exact HB.out | exact pw_below_drewN HB.out _)) : w.heap.size ≤ gb239)); have n3_ := Aside0.mk ((by rw [hg]; exact (below_size (by first | exact HB.out | exact pw_below_drewN HB.out _)) : w.heap.size ≤ gb239)); clear HB; have HB := n0_; have BK239 := n1_; have GW239 := n2_; have GE239 := n3_; clear n0_ n1_ n2_ n3_; clear hb hbox hg) | ((with_reducible refine gate_dst (N := 3) rfl ?_); refine box_event ?hg (N := 3) ?hd (cs := #[.int .i64 a1_0, .int .i64 a1_1, .int .i64 a1_2, .int .i64 a1_3, .int .i64 a1_4, .int .i64 a1_5, .int .i64 a1_6]) (t := 27) ?hr ?_; (case hd => rfl); (case hg => rfl); (case hr => first | (go_simp; done) | (go_simp; rfl)); intro gb240 hg w8 hbox hb; have n0_ := Aside0.mk (blk_below (by exact BK239.out) hb); have n1_ := Aside0.mk (below_step (by first | exact HB.out | exact pw_below_drewN HB.out _) hb); have n2_ := Aside0.mk (hbox); have n3_ := Aside0.mk ((by rw [hg]; exact (below_size (by first | exact HB.out | exact pw_below_drewN HB.out _)) : w.heap.size ≤ gb240)); have n4_ := Aside0.mk ((by rw [hg]; exact (below_size (by first | exact HB.out | exact pw_below_drewN HB.out _)) : w.heap.size ≤ gb240)); have n5_ := Aside0.mk ((by rw [hg]; exact Nat.ne_of_lt (blk_lt (g := gb239) (o := .cells #[.int .i64 a0_0, .int .i64 a0_1, .int .i64 a0_2] 23 (0, 0)) (by (with_reducible repeat (first | refine blk_drewN ?_ _ | refine blk_drew ?_ | refine blk_alloc ?_ _)); exact BK239.out)) : gb239 ≠ gb240)); have n6_ := Aside0.mk ((by rw [hg]; exact Nat.ne_of_gt (blk_lt (g := gb239) (o := .cells #[.int .i64 a0_0, .int .i64 a0_1, .int .i64 a0_2] 23 (0, 0)) (by (with_reducible repeat (first | refine blk_drewN ?_ _ | refine blk_drew ?_ | refine blk_alloc ?_ _)); exact BK239.out)) : gb240 ≠ gb239)); clear BK239; clear HB; have BK239 := n0_; have HB := n1_; have BK240 := n2_; have GW240 := n3_; have GE240 := n4_; have NB239_240 := n5_; have NB240_239 := n6_; clear n0_ n1_ n2_ n3_ n4_ n5_ n6_; clear hb hbox hg; have hnb9 := NB239_240.out; have hnc9 := NB240_239.out; obtain ⟨hcz10_0, hcz10_1, hcz10_2⟩ := cells3 BK239.out; obtain ⟨hcz11_0, hcz11_1, hcz11_2, hcz11_3, hcz11_4, hcz11_5, hcz11_6⟩ := cells7 BK240.out) | ((with_reducible refine gate_callee (f := 13) rfl ?_); refine goesL_ (some 23) rfl rfl Try.func13 (by kernel_rfl) rfl #[.agg #[.int .i64 a0_0, .int .i64 a0_1, .int .i64 a0_2], .agg #[.int .i64 a1_0, .int .i64 a1_1, .int .i64 a1_2, .int .i64 a1_3, .int .i64 a1_4, .int .i64 a1_5, .int .i64 a1_6]] rfl (by (try simp only [List.map_toArray, List.map_cons, List.map_nil]); first | done | rfl | (simp only [List.length_drop, List.length_take]; rfl)) ?_; (with_reducible refine (swarfref33_Quarters.calls k a0_0 a0_1 a0_2 a1_0 a1_1 a1_2 a1_3 a1_4 a1_5 a1_6 t241 t242 _ A3.out).mono ?_); rintro e w12 ⟨rfl, hb⟩; refine ⟨_, rfl, ?_⟩; have n0_ := Aside0.mk (blk_below (by exact BK239.out) hb); have n1_ := Aside0.mk (blk_below (by exact BK240.out) hb); have n2_ := Aside0.mk (below_step (by first | exact HB.out | exact pw_below_drewN HB.out _) hb); clear BK239; clear BK240; clear HB; have BK239 := n0_; have BK240 := n1_; have HB := n2_; clear n0_ n1_ n2_; (try clear hb); (try clear hb2); (try clear hk); (try clear hi); obtain ⟨hcz13_0, hcz13_1, hcz13_2⟩ := cells3 BK239.out; obtain ⟨hcz14_0, hcz14_1, hcz14_2, hcz14_3, hcz14_4, hcz14_5, hcz14_6⟩ := cells7 BK240.out) | ((with_reducible refine gate_callee (f := 32) rfl ?_); refine goesL_ (some 42) rfl rfl Try.func32 (by kernel_rfl) rfl #[.int .i64 (wrap64 (a0_0 - a1_4)), .int .i64 (wrap64 (a0_1 - a1_5))] rfl (by (try simp only [List.map_toArray, List.map_cons, List.map_nil]); first | done | rfl | (simp only [List.length_drop, List.length_take]; rfl)) ?_; (with_reducible refine (swarfref33_quadrant.calls k (wrap64 (a0_0 - a1_4)) (wrap64 (a0_1 - a1_5)) t243 t244 _ A5.out).mono ?_); rintro e w' ⟨rfl, ⟨nd, rfl⟩⟩; refine ⟨_, rfl, ?_⟩) | ((with_reducible refine gate_callee (f := 39) rfl ?_); refine goesL_ (some 46) rfl rfl Try.func39 (by kernel_rfl) rfl #[.int .i64 t244] rfl (by (try simp only [List.map_toArray, List.map_cons, List.map_nil]); first | done | rfl | (simp only [List.length_drop, List.length_take]; rfl)) ?_; (with_reducible refine (swarfref33_Chords.calls k t244 t245 _ A6.out).mono ?_); rintro e w' ⟨rfl, ⟨nd, rfl⟩⟩; refine ⟨_, rfl, ?_⟩))
  go_loopg [12, 13] k (fun kq v12 v13 w' => ∃ (x12_1 : List (S23)) (x13_1 : Int), v13 = .int .i64 x13_1 ∧ Aside0 (swarfref33_Arc.l0 kq t243 t244 t245 (wrap64 (t241 * t245)) x12_1 x13_1 a0_0 a0_1 a0_2 a1_0 a1_1 a1_2 a1_3 a1_4 a1_5 a1_6 = some (r1, r2)) ∧ Aside0 (kq ≤ k) ∧ Aside0 (Kd.R k23 23 w' w.heap.size (fun k_ => k_ ≠ gb239) v12 x12_1) ∧ Aside0 (w'.heap[gb239]? = some (.cells #[.int .i64 a0_0, .int .i64 a0_1, .int .i64 a0_2] 23 (0, 0))) ∧ Aside0 (w'.heap[gb240]? = some (.cells #[.int .i64 a1_0, .int .i64 a1_1, .int .i64 a1_2, .int .i64 a1_3, .int .i64 a1_4, .int .i64 a1_5, .int .i64 a1_6] 27 (0, 0))) ∧ Aside0 (Below w.heap.size w w'))
  case atStart => exact ⟨(([] : List (S23))), (0), (by first | rfl | (simp; done) | (simp [*]; done)), H', ⟨Nat.le_refl _⟩, ⟨by first | exact Kd.R_nil _ _ _ _ _ | exact Kd.N_nil _ _ _ _ _ | exact Kd.V_nil _ _ _ _ _ | exact Kd.Q_nil _ _ _ _ _ | exact Kd.S_nil _ _ _ _ _⟩, ⟨by (with_reducible repeat (first | refine blk_drewN ?_ _ | refine blk_drew ?_ | refine blk_alloc ?_ _)); exact BK239.out⟩, ⟨by (with_reducible repeat (first | refine blk_drewN ?_ _ | refine blk_drew ?_ | refine blk_alloc ?_ _)); exact BK240.out⟩, ⟨by repeat (first | (with_reducible first | exact HB.out | apply below_alloc | apply pw_below_drewN | apply below_drew1 | refine below_set ?_ GE239.out | refine below_set ?_ GE240.out) | exact HB.out)⟩⟩
  case round =>
   clear H'
   try clear c1
   try clear p2
   try clear c3
   try clear c4
   try clear c4b0
   try clear c4b1
   try clear p6
   try clear c9
   try clear c13
   try clear hcz10_0
   try clear hcz10_1
   try clear hcz10_2
   try clear hcz11_0
   try clear hcz11_1
   try clear hcz11_2
   try clear hcz11_3
   try clear hcz11_4
   try clear hcz11_5
   try clear hcz11_6
   try clear hcz13_0
   try clear hcz13_1
   try clear hcz13_2
   try clear hcz14_0
   try clear hcz14_1
   try clear hcz14_2
   try clear hcz14_3
   try clear hcz14_4
   try clear hcz14_5
   try clear hcz14_6
   obtain ⟨x12_1, x13_1, rfl, HA, HK1, HO_12, BK239, BK240, HB⟩ := hrel
   cases gk with
   | zero => exact absurd HA.out (by simp [swarfref33_Arc.l0])
   | succ k1 =>
    have H := HA.out
    clear HA
    simp only [swarfref33_Arc.l0] at H
    by_cases c15 : x13_1 < (wrap64 (t241 * t245))
    ·rw [if_pos c15] at H
     have c15b0 : decide (x13_1 < (wrap64 (t241 * t245))) = true := decide_eq_true c15
     clear c15
     by_cases c16 : t245 = 0
     ·rw [if_pos c16] at H
      exact absurd H (by simp)
     ·rw [if_neg c16] at H
      have c16b0 : (t245 == 0) = false := beq_eq_false_iff_ne.mpr c16
      have c16b1 : (t245 != 0) = true := bne_iff_ne.mpr c16
      by_cases c17 : (wrap64 ((wrap64 (t245 * t245)) + (wrap64 ((wrap64 ((Int.tmod x13_1 t245) + 1)) * (wrap64 ((Int.tmod x13_1 t245) + 1)))))) = 0
      ·rw [if_pos c17] at H
       exact absurd H (by simp)
      ·rw [if_neg c17] at H
       have c17b0 : ((wrap64 ((wrap64 (t245 * t245)) + (wrap64 ((wrap64 ((Int.tmod x13_1 t245) + 1)) * (wrap64 ((Int.tmod x13_1 t245) + 1)))))) == 0) = false := beq_eq_false_iff_ne.mpr c17
       have c17b1 : ((wrap64 ((wrap64 (t245 * t245)) + (wrap64 ((wrap64 ((Int.tmod x13_1 t245) + 1)) * (wrap64 ((Int.tmod x13_1 t245) + 1)))))) != 0) = true := bne_iff_ne.mpr c17
       by_cases c18 : a1_0 = 3
       ·rw [if_pos c18] at H
        have c18b0 : (a1_0 == 3) = true := beq_iff_eq.mpr c18
        have c18b1 : (a1_0 != 3) = false := bne_eq_false_iff_eq.mpr c18
        clear c18
        replace H := Option.bind_eq_some_iff.mp H
        obtain ⟨⟨t246, t247⟩, A190, H⟩ := H
        replace H : ((swarfref33_down.f (wrap64 ((wrap64 (a1_3 - a0_2)) * (wrap64 (x13_1 + 1)))) (wrap64 (t241 * t245))).bind fun t248 => (if x12_1.length < 5864062014805 then (swarfref33_Arc.l0 k1 t243 t244 t245 (wrap64 (t241 * t245)) (x12_1 ++ [(⟨wrap64 (a1_4 + t246), wrap64 (a1_5 + t247), wrap64 (a0_2 + t248)⟩ : S23)]) (wrap64 (x13_1 + 1)) a0_0 a0_1 a0_2 a1_0 a1_1 a1_2 a1_3 a1_4 a1_5 a1_6) else (none))) = some (r1, r2) := H
        have A19 := Aside0.mk A190
        clear A190
        replace H := Option.bind_eq_some_iff.mp H
        obtain ⟨t248, A200, H⟩ := H
        replace H : (if x12_1.length < 5864062014805 then (swarfref33_Arc.l0 k1 t243 t244 t245 (wrap64 (t241 * t245)) (x12_1 ++ [(⟨wrap64 (a1_4 + t246), wrap64 (a1_5 + t247), wrap64 (a0_2 + t248)⟩ : S23)]) (wrap64 (x13_1 + 1)) a0_0 a0_1 a0_2 a1_0 a1_1 a1_2 a1_3 a1_4 a1_5 a1_6) else (none)) = some (r1, r2) := H
        have A20 := Aside0.mk A200
        clear A200
        by_cases c21 : x12_1.length < 5864062014805
        ·rw [if_pos c21] at H
         have LMc21 := Aside0.mk c21
         clear c21
         obtain ⟨y249, hy249⟩ : ∃ y_ : List (S23), y_ = (x12_1 ++ [(⟨wrap64 (a1_4 + t246), wrap64 (a1_5 + t247), wrap64 (a0_2 + t248)⟩ : S23)]) := ⟨_, rfl⟩
         replace H : (swarfref33_Arc.l0 k1 t243 t244 t245 (wrap64 (t241 * t245)) y249 (wrap64 (x13_1 + 1)) a0_0 a0_1 a0_2 a1_0 a1_1 a1_2 a1_3 a1_4 a1_5 a1_6) = some (r1, r2) := by first | (rw [hy249]; with_reducible exact H) | (have H2_ := (Option.bind_some _ _).symm.trans H; rw [hy249]; with_reducible exact H2_) | (have H2_ := (Option.bind_some _ _).symm.trans H; with_reducible exact H2_) | with_reducible exact H | (rw [hy249]; exact H) | exact H
         have Ny249 := Aside0.mk hy249
         clear hy249
         have H' := Aside0.mk H
         clear H
         try go_wp2
         have n0_ := Aside0.mk (Kd.R_drew HO_12.out)
         have n1_ := Aside0.mk (blk_drew BK239.out)
         have n2_ := Aside0.mk (blk_drew BK240.out)
         have n3_ := Aside0.mk (below_drew1 HB.out)
         clear HO_12
         clear BK239
         clear BK240
         clear HB
         have HO_12 := n0_
         have BK239 := n1_
         have BK240 := n2_
         have HB := n3_
         clear n0_ n1_ n2_ n3_
         refine start_ (n := 33) (S := fun w' => True) (ds := []) #[false, false, false, false, false, false, false, false, false, false, false, false, false, false, false, false, false, false, false, false, false, false, false, false, false, false, false, false, false, false, false, false, false] (by kernel_rfl) rfl rfl trivial (fun hHeld => ?_); refine with_tabW swarfref33_Arc.tab12 swarfref33_Arc.bits12 (fun HT_ HW_ => ?_)
         generalize wr.drew = w22 at HO_12 BK239 BK240 HB hHeld ⊢
         refine pu 0 59 (bzz 33 1) (any_of HT_.out (by kernel_rfl)) ?_
         refine pu 1 60 (bzz 33 3) (any_of HT_.out (by kernel_rfl)) ?_
         refine pu 2 61 (bzz 33 7) (any_of HT_.out (by kernel_rfl)) ?_
         refine pu 3 62 (bzz 33 15) (any_of HT_.out (by kernel_rfl)) ?_
         refine pu 4 63 (bzz 33 31) (any_of HT_.out (by kernel_rfl)) ?_
         refine pu 5 64 (bzz 33 63) (any_of HT_.out (by kernel_rfl)) ?_
         refine pu 6 65 (bzz 33 127) (any_of HT_.out (by kernel_rfl)) ?_
         refine pu 7 66 (bzz 33 255) (any_of HT_.out (by kernel_rfl)) ?_
         refine pu 8 67 (bzz 33 511) (any_of HT_.out (by kernel_rfl)) ?_
         refine pu 9 68 (bzz 33 1023) (any_of HT_.out (by kernel_rfl)) ?_
         refine pu 10 69 (bzz 33 2047) (any_of HT_.out (by kernel_rfl)) ?_
         refine pu 11 70 (bzz 33 4095) (any_of HT_.out (by kernel_rfl)) ?_
         refine pu 12 71 (bzz 33 8191) (any_of HT_.out (by kernel_rfl)) ?_
         refine pu 13 72 (bzz 33 16383) (any_of HT_.out (by kernel_rfl)) ?_
         refine pu 14 73 (bzz 33 32767) (any_of HT_.out (by kernel_rfl)) ?_
         refine pu 15 74 (bzz 33 65535) (any_of HT_.out (by kernel_rfl)) ?_
         refine pu 16 75 (bzz 33 131071) (any_of HT_.out (by kernel_rfl)) ?_
         refine pu 17 76 (bzz 33 262143) (any_of HT_.out (by kernel_rfl)) ?_
         refine pu 18 77 (bzz 33 524287) (any_of HT_.out (by kernel_rfl)) ?_
         refine pu 19 78 (bzz 33 1048575) (any_of HT_.out (by kernel_rfl)) ?_
         refine pu 20 79 (bzz 33 2097151) (any_of HT_.out (by kernel_rfl)) ?_
         refine pu 21 80 (bzz 33 4194303) (any_of HT_.out (by kernel_rfl)) ?_
         refine pu 22 81 (bzz 33 8388607) (any_of HT_.out (by kernel_rfl)) ?_
         refine pu 23 82 (bzz 33 16777215) (any_of HT_.out (by kernel_rfl)) ?_
         refine pu 24 83 (bzz 33 33554431) (any_of HT_.out (by kernel_rfl)) ?_
         refine pu 25 84 (bzz 33 67108863) (any_of HT_.out (by kernel_rfl)) ?_
         refine pu 26 85 (bzz 33 134217727) (any_of HT_.out (by kernel_rfl)) ?_
         refine pu 27 86 (bzz 33 268435455) (any_of HT_.out (by kernel_rfl)) ?_
         refine pu 28 87 (bzz 33 536870911) (any_of HT_.out (by kernel_rfl)) ?_
         refine pu 29 88 (bzz 33 1073741823) (any_of HT_.out (by kernel_rfl)) ?_
         refine pu 30 89 (bzz 33 2147483647) (any_of HT_.out (by kernel_rfl)) ?_
         refine pu 31 15 (bzz 33 4294967295) (any_of HT_.out (by kernel_rfl)) ?_
         refine pu 32 16 (bzz 33 8589934591) (any_of HT_.out (by kernel_rfl)) ?_
         refine done_ (done_of HT_.out (by kernel_rfl)) ?_
         have hnb23 := NB240_239.out
         have hnc23 := NB239_240.out
         obtain ⟨hcz24_0, hcz24_1, hcz24_2, hcz24_3, hcz24_4, hcz24_5, hcz24_6⟩ := cells7 BK240.out
         try go_wp2_with (first | ((with_reducible refine gate_callee (f := 40) rfl ?_); refine goesL_ (some 111) rfl rfl Try.func40 (by kernel_rfl) rfl #[.int .i64 (wrap64 (Int.tdiv (wrap64 (t244 * (wrap64 ((wrap64 (t245 * t245)) - (wrap64 ((wrap64 ((Int.tmod x13_1 t245) + 1)) * (wrap64 ((Int.tmod x13_1 t245) + 1)))))))) (wrap64 ((wrap64 (t245 * t245)) + (wrap64 ((wrap64 ((Int.tmod x13_1 t245) + 1)) * (wrap64 ((Int.tmod x13_1 t245) + 1)))))))), .int .i64 (wrap64 (-(wrap64 (Int.tdiv (wrap64 ((wrap64 ((wrap64 (2 * t244)) * (wrap64 ((Int.tmod x13_1 t245) + 1)))) * t245)) (wrap64 ((wrap64 (t245 * t245)) + (wrap64 ((wrap64 ((Int.tmod x13_1 t245) + 1)) * (wrap64 ((Int.tmod x13_1 t245) + 1)))))))))), .int .i64 (Int.tmod (wrap64 (t243 + (wrap64 (3 * (wrap64 (Int.tdiv x13_1 t245)))))) 4)] rfl (by (try simp only [List.map_toArray, List.map_cons, List.map_nil]); first | done | rfl | (simp only [List.length_drop, List.length_take]; rfl)) ?_; (with_reducible refine (swarfref33_turned.calls k1 (wrap64 (Int.tdiv (wrap64 (t244 * (wrap64 ((wrap64 (t245 * t245)) - (wrap64 ((wrap64 ((Int.tmod x13_1 t245) + 1)) * (wrap64 ((Int.tmod x13_1 t245) + 1)))))))) (wrap64 ((wrap64 (t245 * t245)) + (wrap64 ((wrap64 ((Int.tmod x13_1 t245) + 1)) * (wrap64 ((Int.tmod x13_1 t245) + 1)))))))) (wrap64 (-(wrap64 (Int.tdiv (wrap64 ((wrap64 ((wrap64 (2 * t244)) * (wrap64 ((Int.tmod x13_1 t245) + 1)))) * t245)) (wrap64 ((wrap64 (t245 * t245)) + (wrap64 ((wrap64 ((Int.tmod x13_1 t245) + 1)) * (wrap64 ((Int.tmod x13_1 t245) + 1)))))))))) (Int.tmod (wrap64 (t243 + (wrap64 (3 * (wrap64 (Int.tdiv x13_1 t245)))))) 4) t246 t247 _ A19.out).mono ?_); rintro e w' ⟨rfl, ⟨nd, rfl⟩⟩; refine ⟨_, rfl, ?_⟩))
         (try (rw [drewN_self w22]; generalize hq_ : World.drewN w22 _ = w22; have n0_ : Aside0 (Kd.R k23 23 w22 w.heap.size (fun k_ => k_ ≠ gb239) u12 x12_1) := ⟨by rw [← hq_]; exact (by (with_reducible repeat (first | apply Kd.R_alloc | apply Kd.R_drewN | apply Kd.R_drew)); exact HO_12.out)⟩; have n1_ : Aside0 (w22.heap[gb239]? = some (.cells #[.int .i64 a0_0, .int .i64 a0_1, .int .i64 a0_2] 23 (0, 0))) := ⟨by rw [← hq_]; exact (by (with_reducible repeat (first | refine blk_drewN ?_ _ | refine blk_drew ?_ | refine blk_alloc ?_ _)); exact BK239.out)⟩; have n2_ : Aside0 (w22.heap[gb240]? = some (.cells #[.int .i64 a1_0, .int .i64 a1_1, .int .i64 a1_2, .int .i64 a1_3, .int .i64 a1_4, .int .i64 a1_5, .int .i64 a1_6] 27 (0, 0))) := ⟨by rw [← hq_]; exact (by (with_reducible repeat (first | refine blk_drewN ?_ _ | refine blk_drew ?_ | refine blk_alloc ?_ _)); exact BK240.out)⟩; have n3_ : Aside0 (Below w.heap.size w w22) := ⟨by rw [← hq_]; exact (by repeat (first | (with_reducible first | exact HB.out | apply below_alloc | apply pw_below_drewN | apply below_drew1 | refine below_set ?_ GE239.out | refine below_set ?_ GE240.out) | exact HB.out))⟩; clear HO_12 BK239 BK240 HB hq_; have HO_12 := n0_; have BK239 := n1_; have BK240 := n2_; have HB := n3_; clear n0_ n1_ n2_ n3_))
         have n0_ := Aside0.mk (Kd.R_drew HO_12.out)
         have n1_ := Aside0.mk (blk_drew BK239.out)
         have n2_ := Aside0.mk (blk_drew BK240.out)
         have n3_ := Aside0.mk (below_drew1 HB.out)
         clear HO_12
         clear BK239
         clear BK240
         clear HB
         have HO_12 := n0_
         have BK239 := n1_
         have BK240 := n2_
         have HB := n3_
         clear n0_ n1_ n2_ n3_
         refine start_ (n := 29) (S := fun w' => w'.cell? ⟨gb240, 0, none⟩ = some (.int .i64 a1_0) ∧ w'.cell? ⟨gb240, 1, none⟩ = some (.int .i64 a1_1) ∧ w'.cell? ⟨gb240, 2, none⟩ = some (.int .i64 a1_2) ∧ w'.cell? ⟨gb240, 3, none⟩ = some (.int .i64 a1_3) ∧ w'.cell? ⟨gb240, 4, none⟩ = some (.int .i64 a1_4) ∧ w'.cell? ⟨gb240, 5, none⟩ = some (.int .i64 a1_5) ∧ w'.cell? ⟨gb240, 6, none⟩ = some (.int .i64 a1_6) ∧ w'.cell? ⟨gb239, 0, none⟩ = some (.int .i64 a0_0) ∧ w'.cell? ⟨gb239, 1, none⟩ = some (.int .i64 a0_1) ∧ w'.cell? ⟨gb239, 2, none⟩ = some (.int .i64 a0_2)) (ds := []) #[false, false, false, false, false, false, false, false, false, false, false, false, false, false, false, false, false, false, false, false, false, false, false, false, false, false, false, false, false] (by kernel_rfl) rfl rfl ⟨(blk_cell BK240.out 0).trans rfl, (blk_cell BK240.out 1).trans rfl, (blk_cell BK240.out 2).trans rfl, (blk_cell BK240.out 3).trans rfl, (blk_cell BK240.out 4).trans rfl, (blk_cell BK240.out 5).trans rfl, (blk_cell BK240.out 6).trans rfl, (blk_cell BK239.out 0).trans rfl, (blk_cell BK239.out 1).trans rfl, (blk_cell BK239.out 2).trans rfl⟩ (fun hHeld => ?_); refine with_tabW swarfref33_Arc.tab18 swarfref33_Arc.bits18 (fun HT_ HW_ => ?_)
         generalize w22.drew = w25 at HO_12 BK239 BK240 HB hHeld ⊢
         refine pu 0 114 (bzz 29 1) (any_of HT_.out (by kernel_rfl)) ?_
         refine pu 1 115 (bzz 29 3) (any_of HT_.out (by kernel_rfl)) ?_
         refine pu 2 116 (bzz 29 7) (any_of HT_.out (by kernel_rfl)) ?_
         refine pu 4 118 (bzz 29 23) (any_of HT_.out (by kernel_rfl)) ?_
         refine pu 6 120 (bzz 29 87) (any_of HT_.out (by kernel_rfl)) ?_
         refine pu 7 121 (bzz 29 215) (any_of HT_.out (by kernel_rfl)) ?_
         refine pu 9 123 (bzz 29 727) (any_of HT_.out (by kernel_rfl)) ?_
         refine pu 11 125 (bzz 29 2775) (any_of HT_.out (by kernel_rfl)) ?_
         refine pu 13 127 (bzz 29 10967) (any_of HT_.out (by kernel_rfl)) ?_
         refine pu 14 128 (bzz 29 27351) (any_of HT_.out (by kernel_rfl)) ?_
         refine pu 16 130 (bzz 29 92887) (any_of HT_.out (by kernel_rfl)) ?_
         refine pu 19 133 (bzz 29 617175) (any_of HT_.out (by kernel_rfl)) ?_
         refine pu 20 134 (bzz 29 1665751) (any_of HT_.out (by kernel_rfl)) ?_
         refine pu 22 136 (bzz 29 5860055) (any_of HT_.out (by kernel_rfl)) ?_
         refine ta 3 117 (bzz 29 5860063) (take_ofW HT_.out HW_.out (by kernel_rfl)) hHeld ?_
         refine pu 5 119 (bzz 29 5860095) (any_of HT_.out (by kernel_rfl)) ?_
         refine ta 8 122 (bzz 29 5860351) (take_ofW HT_.out HW_.out (by kernel_rfl)) hHeld ?_
         refine pu 10 124 (bzz 29 5861375) (any_of HT_.out (by kernel_rfl)) ?_
         refine ta 12 126 (bzz 29 5865471) (take_ofW HT_.out HW_.out (by kernel_rfl)) hHeld ?_
         refine ta 15 129 (bzz 29 5898239) (take_ofW HT_.out HW_.out (by kernel_rfl)) hHeld ?_
         refine ta 17 131 (bzz 29 6029311) (take_ofW HT_.out HW_.out (by kernel_rfl)) hHeld ?_
         refine pu 18 132 (bzz 29 6291455) (any_of HT_.out (by kernel_rfl)) ?_
         refine pu 21 135 (bzz 29 8388607) (any_of HT_.out (by kernel_rfl)) ?_
         refine one_ (i := 23) (N := some 137) (bzz 29 16777215) rfl rfl (one_of HT_.out (by kernel_rfl)) (by decide) (fun K hK => ?_)
         refine goes_ Try.func41 (by kernel_rfl) rfl #[.int .i64 (wrap64 ((wrap64 (a1_3 - a0_2)) * (wrap64 (x13_1 + 1)))), .int .i64 (wrap64 (t241 * t245))] (by rfl) rfl rfl (by (try simp only [List.map_toArray, List.map_cons, List.map_nil]); first | done | rfl | (simp only [List.length_drop, List.length_take]; rfl)) ?_
         with_reducible refine (swarfref33_down.calls (wrap64 ((wrap64 (a1_3 - a0_2)) * (wrap64 (x13_1 + 1)))) (wrap64 (t241 * t245)) t248 _ A20.out).mono ?_
         rintro e w' ⟨rfl, ⟨nd, rfl⟩⟩
         refine ⟨_, rfl, ?_⟩
         refine hK.out _ _ ⟨(blk_cell BK240.out 0).trans rfl, (blk_cell BK240.out 1).trans rfl, (blk_cell BK240.out 2).trans rfl, (blk_cell BK240.out 3).trans rfl, (blk_cell BK240.out 4).trans rfl, (blk_cell BK240.out 5).trans rfl, (blk_cell BK240.out 6).trans rfl, (blk_cell BK239.out 0).trans rfl, (blk_cell BK239.out 1).trans rfl, (blk_cell BK239.out 2).trans rfl⟩ (fun hHeld => ?_)
         clear hK K
         refine norm_ (a' := ?_) ?_ ?_
         rotate_left
         ·show Act.put _ (some 137) _ = _
          simp only [Act.put, List.setIfInBounds_toArray, List.set_cons_zero, List.set_cons_succ, i64_w, i32_w]
          rfl
         refine pu 24 138 (bzz 29 33554431) (any_of HT_.out (by kernel_rfl)) ?_
         refine pu 25 139 (bzz 29 67108863) (any_of HT_.out (by kernel_rfl)) ?_
         refine one_ (i := 26) (N := some 140) (bzz 29 134217727) rfl rfl (one_of HT_.out (by kernel_rfl)) (by decide) (fun K hK => ?_)
         refine value_ (w1 := ?_) (v := ?_) (by rfl) rfl ?_ ?_
         rotate_left 2
         ·go_simp
          constructor
          ·rfl
          ·rfl
         refine hK.out _ _ ⟨(blk_cell (blk_alloc BK240.out _) 0).trans rfl, (blk_cell (blk_alloc BK240.out _) 1).trans rfl, (blk_cell (blk_alloc BK240.out _) 2).trans rfl, (blk_cell (blk_alloc BK240.out _) 3).trans rfl, (blk_cell (blk_alloc BK240.out _) 4).trans rfl, (blk_cell (blk_alloc BK240.out _) 5).trans rfl, (blk_cell (blk_alloc BK240.out _) 6).trans rfl, (blk_cell (blk_alloc BK239.out _) 0).trans rfl, (blk_cell (blk_alloc BK239.out _) 1).trans rfl, (blk_cell (blk_alloc BK239.out _) 2).trans rfl⟩ (fun hHeld => ?_)
         clear hK K
         refine norm_ (a' := ?_) ?_ ?_
         rotate_left
         ·show Act.put _ (some 140) _ = _
          simp only [Act.put, List.setIfInBounds_toArray, List.set_cons_zero, List.set_cons_succ, i64_w, i32_w]
          rfl
         refine one_ (i := 27) (N := some 141) (bzz 29 268435455) rfl rfl (one_of HT_.out (by kernel_rfl)) (by decide) (fun K hK => ?_)
         refine Kd.R_append_step k23 (w0 := w) w.heap.size (by rfl) (.tmp 114) (.tmp 140) 38 23 (.agg #[(.int .i64 0), (.int .i64 0), (.int .i64 0)]) 24 rfl Try.underlying38 info23 rfl (by decide) (by omega) u12 x12_1 (⟨wrap64 (a1_4 + t246), wrap64 (a1_5 + t247), wrap64 (a0_2 + t248)⟩ : S23) [.int .i64 (wrap64 (a1_4 + t246)), .int .i64 (wrap64 (a1_5 + t247)), .int .i64 (wrap64 (a0_2 + t248))] (fun k_ => k_ ≠ gb239) (fun _ => False) rfl rfl ?aP (fun _ hk => hk.elim) ?aF ?aO ?aB ?aS ?aL ?_
         (case aP => exact k23_mkM _ _ _ (⟨wrap64 (a1_4 + t246), wrap64 (a1_5 + t247), wrap64 (a0_2 + t248)⟩ : S23))
         (case aB => exact (by repeat (first | (with_reducible first | exact HB.out | apply below_alloc | apply pw_below_drewN | apply below_drew1 | refine below_set ?_ GE239.out | refine below_set ?_ GE240.out) | exact HB.out)))
         (case aF => exact (fun k_ hk => Kd.freshB (g := gb239) (o := .cells #[.int .i64 a0_0, .int .i64 a0_1, .int .i64 a0_2] 23 (0, 0)) (by (with_reducible repeat (first | refine blk_drewN ?_ _ | refine blk_drew ?_ | refine blk_alloc ?_ _)); exact BK239.out) k_ hk))
         (case aO => exact (by (with_reducible repeat (first | apply Kd.R_alloc | apply Kd.R_drewN | apply Kd.R_drew)); exact HO_12.out))
         (case aS => exact (below_size (by first | exact HB.out | exact pw_below_drewN HB.out _)))
         (case aL => have := LMc21.out; omega)
         intro v250 w26 ho hb hg hat
         rw [← Ny249.out] at ho
         have n0_ := Aside0.mk (blk_grown (g := gb239) (o := .cells #[.int .i64 a0_0, .int .i64 a0_1, .int .i64 a0_2] 23 (0, 0)) (by (with_reducible repeat (first | refine blk_drewN ?_ _ | refine blk_drew ?_ | refine blk_alloc ?_ _)); exact BK239.out) hg (Kd.R_away HO_12.out (fun _ hk => hk)))
         have n1_ := Aside0.mk (blk_grown (g := gb240) (o := .cells #[.int .i64 a1_0, .int .i64 a1_1, .int .i64 a1_2, .int .i64 a1_3, .int .i64 a1_4, .int .i64 a1_5, .int .i64 a1_6] 27 (0, 0)) (by (with_reducible repeat (first | refine blk_drewN ?_ _ | refine blk_drew ?_ | refine blk_alloc ?_ _)); exact BK240.out) hg (Kd.R_ne HO_12.out BK240.out (by decide)))
         have n2_ := Aside0.mk (hb)
         have n3_ := Aside0.mk (ho)
         clear BK239
         clear BK240
         clear HB
         clear HO_12
         have BK239 := n0_
         have BK240 := n1_
         have HB := n2_
         have HO251 := n3_
         clear n0_ n1_ n2_ n3_
         clear ho hb hg hat
         refine hK.out _ _ ⟨(blk_cell BK240.out 0).trans rfl, (blk_cell BK240.out 1).trans rfl, (blk_cell BK240.out 2).trans rfl, (blk_cell BK240.out 3).trans rfl, (blk_cell BK240.out 4).trans rfl, (blk_cell BK240.out 5).trans rfl, (blk_cell BK240.out 6).trans rfl, (blk_cell BK239.out 0).trans rfl, (blk_cell BK239.out 1).trans rfl, (blk_cell BK239.out 2).trans rfl⟩ (fun hHeld => ?_)
         clear hK K
         refine norm_ (a' := ?_) ?_ ?_
         rotate_left
         ·show Act.put _ (some 141) _ = _
          simp only [Act.put, List.setIfInBounds_toArray, List.set_cons_zero, List.set_cons_succ, i64_w, i32_w]
          rfl
         refine pu 28 12 (bzz 29 536870911) (any_of HT_.out (by kernel_rfl)) ?_
         refine done_ (done_of HT_.out (by kernel_rfl)) ?_
         try go_wp2
         go_roundg k1
         case measure => have := HK1.out; omega
         case rel => exact ⟨(y249), (wrap64 (x13_1 + 1)), (by first | rfl | (simp; done) | (simp [*]; done)), H', ⟨by have := HK1.out; omega⟩, ⟨by (with_reducible repeat (first | apply Kd.R_alloc | apply Kd.R_drewN | apply Kd.R_drew)); exact HO251.out⟩, ⟨by (with_reducible repeat (first | refine blk_drewN ?_ _ | refine blk_drew ?_ | refine blk_alloc ?_ _)); exact BK239.out⟩, ⟨by (with_reducible repeat (first | refine blk_drewN ?_ _ | refine blk_drew ?_ | refine blk_alloc ?_ _)); exact BK240.out⟩, ⟨by repeat (first | (with_reducible first | exact HB.out | apply below_alloc | apply pw_below_drewN | apply below_drew1 | refine below_set ?_ GE239.out | refine below_set ?_ GE240.out) | exact HB.out)⟩⟩
        ·rw [if_neg c21] at H
         exact absurd H (by simp)
       ·rw [if_neg c18] at H
        have c18b0 : (a1_0 == 3) = false := beq_eq_false_iff_ne.mpr c18
        have c18b1 : (a1_0 != 3) = true := bne_iff_ne.mpr c18
        replace H := Option.bind_eq_some_iff.mp H
        obtain ⟨⟨t252, t253⟩, A270, H⟩ := H
        replace H : ((swarfref33_down.f (wrap64 ((wrap64 (a1_3 - a0_2)) * (wrap64 (x13_1 + 1)))) (wrap64 (t241 * t245))).bind fun t254 => (if x12_1.length < 5864062014805 then (swarfref33_Arc.l0 k1 t243 t244 t245 (wrap64 (t241 * t245)) (x12_1 ++ [(⟨wrap64 (a1_4 + t252), wrap64 (a1_5 + t253), wrap64 (a0_2 + t254)⟩ : S23)]) (wrap64 (x13_1 + 1)) a0_0 a0_1 a0_2 a1_0 a1_1 a1_2 a1_3 a1_4 a1_5 a1_6) else (none))) = some (r1, r2) := H
        have A27 := Aside0.mk A270
        clear A270
        replace H := Option.bind_eq_some_iff.mp H
        obtain ⟨t254, A280, H⟩ := H
        replace H : (if x12_1.length < 5864062014805 then (swarfref33_Arc.l0 k1 t243 t244 t245 (wrap64 (t241 * t245)) (x12_1 ++ [(⟨wrap64 (a1_4 + t252), wrap64 (a1_5 + t253), wrap64 (a0_2 + t254)⟩ : S23)]) (wrap64 (x13_1 + 1)) a0_0 a0_1 a0_2 a1_0 a1_1 a1_2 a1_3 a1_4 a1_5 a1_6) else (none)) = some (r1, r2) := H
        have A28 := Aside0.mk A280
        clear A280
        by_cases c29 : x12_1.length < 5864062014805
        ·rw [if_pos c29] at H
         have LMc29 := Aside0.mk c29
         clear c29
         obtain ⟨y255, hy255⟩ : ∃ y_ : List (S23), y_ = (x12_1 ++ [(⟨wrap64 (a1_4 + t252), wrap64 (a1_5 + t253), wrap64 (a0_2 + t254)⟩ : S23)]) := ⟨_, rfl⟩
         replace H : (swarfref33_Arc.l0 k1 t243 t244 t245 (wrap64 (t241 * t245)) y255 (wrap64 (x13_1 + 1)) a0_0 a0_1 a0_2 a1_0 a1_1 a1_2 a1_3 a1_4 a1_5 a1_6) = some (r1, r2) := by first | (rw [hy255]; with_reducible exact H) | (have H2_ := (Option.bind_some _ _).symm.trans H; rw [hy255]; with_reducible exact H2_) | (have H2_ := (Option.bind_some _ _).symm.trans H; with_reducible exact H2_) | with_reducible exact H | (rw [hy255]; exact H) | exact H
         have Ny255 := Aside0.mk hy255
         clear hy255
         have H' := Aside0.mk H
         clear H
         try go_wp2
         have n0_ := Aside0.mk (Kd.R_drew HO_12.out)
         have n1_ := Aside0.mk (blk_drew BK239.out)
         have n2_ := Aside0.mk (blk_drew BK240.out)
         have n3_ := Aside0.mk (below_drew1 HB.out)
         clear HO_12
         clear BK239
         clear BK240
         clear HB
         have HO_12 := n0_
         have BK239 := n1_
         have BK240 := n2_
         have HB := n3_
         clear n0_ n1_ n2_ n3_
         refine start_ (n := 33) (S := fun w' => True) (ds := []) #[false, false, false, false, false, false, false, false, false, false, false, false, false, false, false, false, false, false, false, false, false, false, false, false, false, false, false, false, false, false, false, false, false] (by kernel_rfl) rfl rfl trivial (fun hHeld => ?_); refine with_tabW swarfref33_Arc.tab12 swarfref33_Arc.bits12 (fun HT_ HW_ => ?_)
         generalize wr.drew = w30 at HO_12 BK239 BK240 HB hHeld ⊢
         refine pu 0 59 (bzz 33 1) (any_of HT_.out (by kernel_rfl)) ?_
         refine pu 1 60 (bzz 33 3) (any_of HT_.out (by kernel_rfl)) ?_
         refine pu 2 61 (bzz 33 7) (any_of HT_.out (by kernel_rfl)) ?_
         refine pu 3 62 (bzz 33 15) (any_of HT_.out (by kernel_rfl)) ?_
         refine pu 4 63 (bzz 33 31) (any_of HT_.out (by kernel_rfl)) ?_
         refine pu 5 64 (bzz 33 63) (any_of HT_.out (by kernel_rfl)) ?_
         refine pu 6 65 (bzz 33 127) (any_of HT_.out (by kernel_rfl)) ?_
         refine pu 7 66 (bzz 33 255) (any_of HT_.out (by kernel_rfl)) ?_
         refine pu 8 67 (bzz 33 511) (any_of HT_.out (by kernel_rfl)) ?_
         refine pu 9 68 (bzz 33 1023) (any_of HT_.out (by kernel_rfl)) ?_
         refine pu 10 69 (bzz 33 2047) (any_of HT_.out (by kernel_rfl)) ?_
         refine pu 11 70 (bzz 33 4095) (any_of HT_.out (by kernel_rfl)) ?_
         refine pu 12 71 (bzz 33 8191) (any_of HT_.out (by kernel_rfl)) ?_
         refine pu 13 72 (bzz 33 16383) (any_of HT_.out (by kernel_rfl)) ?_
         refine pu 14 73 (bzz 33 32767) (any_of HT_.out (by kernel_rfl)) ?_
         refine pu 15 74 (bzz 33 65535) (any_of HT_.out (by kernel_rfl)) ?_
         refine pu 16 75 (bzz 33 131071) (any_of HT_.out (by kernel_rfl)) ?_
         refine pu 17 76 (bzz 33 262143) (any_of HT_.out (by kernel_rfl)) ?_
         refine pu 18 77 (bzz 33 524287) (any_of HT_.out (by kernel_rfl)) ?_
         refine pu 19 78 (bzz 33 1048575) (any_of HT_.out (by kernel_rfl)) ?_
         refine pu 20 79 (bzz 33 2097151) (any_of HT_.out (by kernel_rfl)) ?_
         refine pu 21 80 (bzz 33 4194303) (any_of HT_.out (by kernel_rfl)) ?_
         refine pu 22 81 (bzz 33 8388607) (any_of HT_.out (by kernel_rfl)) ?_
         refine pu 23 82 (bzz 33 16777215) (any_of HT_.out (by kernel_rfl)) ?_
         refine pu 24 83 (bzz 33 33554431) (any_of HT_.out (by kernel_rfl)) ?_
         refine pu 25 84 (bzz 33 67108863) (any_of HT_.out (by kernel_rfl)) ?_
         refine pu 26 85 (bzz 33 134217727) (any_of HT_.out (by kernel_rfl)) ?_
         refine pu 27 86 (bzz 33 268435455) (any_of HT_.out (by kernel_rfl)) ?_
         refine pu 28 87 (bzz 33 536870911) (any_of HT_.out (by kernel_rfl)) ?_
         refine pu 29 88 (bzz 33 1073741823) (any_of HT_.out (by kernel_rfl)) ?_
         refine pu 30 89 (bzz 33 2147483647) (any_of HT_.out (by kernel_rfl)) ?_
         refine pu 31 15 (bzz 33 4294967295) (any_of HT_.out (by kernel_rfl)) ?_
         refine pu 32 16 (bzz 33 8589934591) (any_of HT_.out (by kernel_rfl)) ?_
         refine done_ (done_of HT_.out (by kernel_rfl)) ?_
         have hnb31 := NB240_239.out
         have hnc31 := NB239_240.out
         obtain ⟨hcz32_0, hcz32_1, hcz32_2, hcz32_3, hcz32_4, hcz32_5, hcz32_6⟩ := cells7 BK240.out
         try go_wp2_with (first | ((with_reducible refine gate_callee (f := 40) rfl ?_); refine goesL_ (some 111) rfl rfl Try.func40 (by kernel_rfl) rfl #[.int .i64 (wrap64 (Int.tdiv (wrap64 (t244 * (wrap64 ((wrap64 (t245 * t245)) - (wrap64 ((wrap64 ((Int.tmod x13_1 t245) + 1)) * (wrap64 ((Int.tmod x13_1 t245) + 1)))))))) (wrap64 ((wrap64 (t245 * t245)) + (wrap64 ((wrap64 ((Int.tmod x13_1 t245) + 1)) * (wrap64 ((Int.tmod x13_1 t245) + 1)))))))), .int .i64 (wrap64 (Int.tdiv (wrap64 ((wrap64 ((wrap64 (2 * t244)) * (wrap64 ((Int.tmod x13_1 t245) + 1)))) * t245)) (wrap64 ((wrap64 (t245 * t245)) + (wrap64 ((wrap64 ((Int.tmod x13_1 t245) + 1)) * (wrap64 ((Int.tmod x13_1 t245) + 1)))))))), .int .i64 (Int.tmod (wrap64 (t243 + (wrap64 (Int.tdiv x13_1 t245)))) 4)] rfl (by (try simp only [List.map_toArray, List.map_cons, List.map_nil]); first | done | rfl | (simp only [List.length_drop, List.length_take]; rfl)) ?_; (with_reducible refine (swarfref33_turned.calls k1 (wrap64 (Int.tdiv (wrap64 (t244 * (wrap64 ((wrap64 (t245 * t245)) - (wrap64 ((wrap64 ((Int.tmod x13_1 t245) + 1)) * (wrap64 ((Int.tmod x13_1 t245) + 1)))))))) (wrap64 ((wrap64 (t245 * t245)) + (wrap64 ((wrap64 ((Int.tmod x13_1 t245) + 1)) * (wrap64 ((Int.tmod x13_1 t245) + 1)))))))) (wrap64 (Int.tdiv (wrap64 ((wrap64 ((wrap64 (2 * t244)) * (wrap64 ((Int.tmod x13_1 t245) + 1)))) * t245)) (wrap64 ((wrap64 (t245 * t245)) + (wrap64 ((wrap64 ((Int.tmod x13_1 t245) + 1)) * (wrap64 ((Int.tmod x13_1 t245) + 1)))))))) (Int.tmod (wrap64 (t243 + (wrap64 (Int.tdiv x13_1 t245)))) 4) t252 t253 _ A27.out).mono ?_); rintro e w' ⟨rfl, ⟨nd, rfl⟩⟩; refine ⟨_, rfl, ?_⟩))
         (try (rw [drewN_self w30]; generalize hq_ : World.drewN w30 _ = w30; have n0_ : Aside0 (Kd.R k23 23 w30 w.heap.size (fun k_ => k_ ≠ gb239) u12 x12_1) := ⟨by rw [← hq_]; exact (by (with_reducible repeat (first | apply Kd.R_alloc | apply Kd.R_drewN | apply Kd.R_drew)); exact HO_12.out)⟩; have n1_ : Aside0 (w30.heap[gb239]? = some (.cells #[.int .i64 a0_0, .int .i64 a0_1, .int .i64 a0_2] 23 (0, 0))) := ⟨by rw [← hq_]; exact (by (with_reducible repeat (first | refine blk_drewN ?_ _ | refine blk_drew ?_ | refine blk_alloc ?_ _)); exact BK239.out)⟩; have n2_ : Aside0 (w30.heap[gb240]? = some (.cells #[.int .i64 a1_0, .int .i64 a1_1, .int .i64 a1_2, .int .i64 a1_3, .int .i64 a1_4, .int .i64 a1_5, .int .i64 a1_6] 27 (0, 0))) := ⟨by rw [← hq_]; exact (by (with_reducible repeat (first | refine blk_drewN ?_ _ | refine blk_drew ?_ | refine blk_alloc ?_ _)); exact BK240.out)⟩; have n3_ : Aside0 (Below w.heap.size w w30) := ⟨by rw [← hq_]; exact (by repeat (first | (with_reducible first | exact HB.out | apply below_alloc | apply pw_below_drewN | apply below_drew1 | refine below_set ?_ GE239.out | refine below_set ?_ GE240.out) | exact HB.out))⟩; clear HO_12 BK239 BK240 HB hq_; have HO_12 := n0_; have BK239 := n1_; have BK240 := n2_; have HB := n3_; clear n0_ n1_ n2_ n3_))
         have n0_ := Aside0.mk (Kd.R_drew HO_12.out)
         have n1_ := Aside0.mk (blk_drew BK239.out)
         have n2_ := Aside0.mk (blk_drew BK240.out)
         have n3_ := Aside0.mk (below_drew1 HB.out)
         clear HO_12
         clear BK239
         clear BK240
         clear HB
         have HO_12 := n0_
         have BK239 := n1_
         have BK240 := n2_
         have HB := n3_
         clear n0_ n1_ n2_ n3_
         refine start_ (n := 29) (S := fun w' => w'.cell? ⟨gb240, 0, none⟩ = some (.int .i64 a1_0) ∧ w'.cell? ⟨gb240, 1, none⟩ = some (.int .i64 a1_1) ∧ w'.cell? ⟨gb240, 2, none⟩ = some (.int .i64 a1_2) ∧ w'.cell? ⟨gb240, 3, none⟩ = some (.int .i64 a1_3) ∧ w'.cell? ⟨gb240, 4, none⟩ = some (.int .i64 a1_4) ∧ w'.cell? ⟨gb240, 5, none⟩ = some (.int .i64 a1_5) ∧ w'.cell? ⟨gb240, 6, none⟩ = some (.int .i64 a1_6) ∧ w'.cell? ⟨gb239, 0, none⟩ = some (.int .i64 a0_0) ∧ w'.cell? ⟨gb239, 1, none⟩ = some (.int .i64 a0_1) ∧ w'.cell? ⟨gb239, 2, none⟩ = some (.int .i64 a0_2)) (ds := []) #[false, false, false, false, false, false, false, false, false, false, false, false, false, false, false, false, false, false, false, false, false, false, false, false, false, false, false, false, false] (by kernel_rfl) rfl rfl ⟨(blk_cell BK240.out 0).trans rfl, (blk_cell BK240.out 1).trans rfl, (blk_cell BK240.out 2).trans rfl, (blk_cell BK240.out 3).trans rfl, (blk_cell BK240.out 4).trans rfl, (blk_cell BK240.out 5).trans rfl, (blk_cell BK240.out 6).trans rfl, (blk_cell BK239.out 0).trans rfl, (blk_cell BK239.out 1).trans rfl, (blk_cell BK239.out 2).trans rfl⟩ (fun hHeld => ?_); refine with_tabW swarfref33_Arc.tab18 swarfref33_Arc.bits18 (fun HT_ HW_ => ?_)
         generalize w30.drew = w33 at HO_12 BK239 BK240 HB hHeld ⊢
         refine pu 0 114 (bzz 29 1) (any_of HT_.out (by kernel_rfl)) ?_
         refine pu 1 115 (bzz 29 3) (any_of HT_.out (by kernel_rfl)) ?_
         refine pu 2 116 (bzz 29 7) (any_of HT_.out (by kernel_rfl)) ?_
         refine pu 4 118 (bzz 29 23) (any_of HT_.out (by kernel_rfl)) ?_
         refine pu 6 120 (bzz 29 87) (any_of HT_.out (by kernel_rfl)) ?_
         refine pu 7 121 (bzz 29 215) (any_of HT_.out (by kernel_rfl)) ?_
         refine pu 9 123 (bzz 29 727) (any_of HT_.out (by kernel_rfl)) ?_
         refine pu 11 125 (bzz 29 2775) (any_of HT_.out (by kernel_rfl)) ?_
         refine pu 13 127 (bzz 29 10967) (any_of HT_.out (by kernel_rfl)) ?_
         refine pu 14 128 (bzz 29 27351) (any_of HT_.out (by kernel_rfl)) ?_
         refine pu 16 130 (bzz 29 92887) (any_of HT_.out (by kernel_rfl)) ?_
         refine pu 19 133 (bzz 29 617175) (any_of HT_.out (by kernel_rfl)) ?_
         refine pu 20 134 (bzz 29 1665751) (any_of HT_.out (by kernel_rfl)) ?_
         refine pu 22 136 (bzz 29 5860055) (any_of HT_.out (by kernel_rfl)) ?_
         refine ta 3 117 (bzz 29 5860063) (take_ofW HT_.out HW_.out (by kernel_rfl)) hHeld ?_
         refine pu 5 119 (bzz 29 5860095) (any_of HT_.out (by kernel_rfl)) ?_
         refine ta 8 122 (bzz 29 5860351) (take_ofW HT_.out HW_.out (by kernel_rfl)) hHeld ?_
         refine pu 10 124 (bzz 29 5861375) (any_of HT_.out (by kernel_rfl)) ?_
         refine ta 12 126 (bzz 29 5865471) (take_ofW HT_.out HW_.out (by kernel_rfl)) hHeld ?_
         refine ta 15 129 (bzz 29 5898239) (take_ofW HT_.out HW_.out (by kernel_rfl)) hHeld ?_
         refine ta 17 131 (bzz 29 6029311) (take_ofW HT_.out HW_.out (by kernel_rfl)) hHeld ?_
         refine pu 18 132 (bzz 29 6291455) (any_of HT_.out (by kernel_rfl)) ?_
         refine pu 21 135 (bzz 29 8388607) (any_of HT_.out (by kernel_rfl)) ?_
         refine one_ (i := 23) (N := some 137) (bzz 29 16777215) rfl rfl (one_of HT_.out (by kernel_rfl)) (by decide) (fun K hK => ?_)
         refine goes_ Try.func41 (by kernel_rfl) rfl #[.int .i64 (wrap64 ((wrap64 (a1_3 - a0_2)) * (wrap64 (x13_1 + 1)))), .int .i64 (wrap64 (t241 * t245))] (by rfl) rfl rfl (by (try simp only [List.map_toArray, List.map_cons, List.map_nil]); first | done | rfl | (simp only [List.length_drop, List.length_take]; rfl)) ?_
         with_reducible refine (swarfref33_down.calls (wrap64 ((wrap64 (a1_3 - a0_2)) * (wrap64 (x13_1 + 1)))) (wrap64 (t241 * t245)) t254 _ A28.out).mono ?_
         rintro e w' ⟨rfl, ⟨nd, rfl⟩⟩
         refine ⟨_, rfl, ?_⟩
         refine hK.out _ _ ⟨(blk_cell BK240.out 0).trans rfl, (blk_cell BK240.out 1).trans rfl, (blk_cell BK240.out 2).trans rfl, (blk_cell BK240.out 3).trans rfl, (blk_cell BK240.out 4).trans rfl, (blk_cell BK240.out 5).trans rfl, (blk_cell BK240.out 6).trans rfl, (blk_cell BK239.out 0).trans rfl, (blk_cell BK239.out 1).trans rfl, (blk_cell BK239.out 2).trans rfl⟩ (fun hHeld => ?_)
         clear hK K
         refine norm_ (a' := ?_) ?_ ?_
         rotate_left
         ·show Act.put _ (some 137) _ = _
          simp only [Act.put, List.setIfInBounds_toArray, List.set_cons_zero, List.set_cons_succ, i64_w, i32_w]
          rfl
         refine pu 24 138 (bzz 29 33554431) (any_of HT_.out (by kernel_rfl)) ?_
         refine pu 25 139 (bzz 29 67108863) (any_of HT_.out (by kernel_rfl)) ?_
         refine one_ (i := 26) (N := some 140) (bzz 29 134217727) rfl rfl (one_of HT_.out (by kernel_rfl)) (by decide) (fun K hK => ?_)
         refine value_ (w1 := ?_) (v := ?_) (by rfl) rfl ?_ ?_
         rotate_left 2
         ·go_simp
          constructor
          ·rfl
          ·rfl
         refine hK.out _ _ ⟨(blk_cell (blk_alloc BK240.out _) 0).trans rfl, (blk_cell (blk_alloc BK240.out _) 1).trans rfl, (blk_cell (blk_alloc BK240.out _) 2).trans rfl, (blk_cell (blk_alloc BK240.out _) 3).trans rfl, (blk_cell (blk_alloc BK240.out _) 4).trans rfl, (blk_cell (blk_alloc BK240.out _) 5).trans rfl, (blk_cell (blk_alloc BK240.out _) 6).trans rfl, (blk_cell (blk_alloc BK239.out _) 0).trans rfl, (blk_cell (blk_alloc BK239.out _) 1).trans rfl, (blk_cell (blk_alloc BK239.out _) 2).trans rfl⟩ (fun hHeld => ?_)
         clear hK K
         refine norm_ (a' := ?_) ?_ ?_
         rotate_left
         ·show Act.put _ (some 140) _ = _
          simp only [Act.put, List.setIfInBounds_toArray, List.set_cons_zero, List.set_cons_succ, i64_w, i32_w]
          rfl
         refine one_ (i := 27) (N := some 141) (bzz 29 268435455) rfl rfl (one_of HT_.out (by kernel_rfl)) (by decide) (fun K hK => ?_)
         refine Kd.R_append_step k23 (w0 := w) w.heap.size (by rfl) (.tmp 114) (.tmp 140) 38 23 (.agg #[(.int .i64 0), (.int .i64 0), (.int .i64 0)]) 24 rfl Try.underlying38 info23 rfl (by decide) (by omega) u12 x12_1 (⟨wrap64 (a1_4 + t252), wrap64 (a1_5 + t253), wrap64 (a0_2 + t254)⟩ : S23) [.int .i64 (wrap64 (a1_4 + t252)), .int .i64 (wrap64 (a1_5 + t253)), .int .i64 (wrap64 (a0_2 + t254))] (fun k_ => k_ ≠ gb239) (fun _ => False) rfl rfl ?aP (fun _ hk => hk.elim) ?aF ?aO ?aB ?aS ?aL ?_
         (case aP => exact k23_mkM _ _ _ (⟨wrap64 (a1_4 + t252), wrap64 (a1_5 + t253), wrap64 (a0_2 + t254)⟩ : S23))
         (case aB => exact (by repeat (first | (with_reducible first | exact HB.out | apply below_alloc | apply pw_below_drewN | apply below_drew1 | refine below_set ?_ GE239.out | refine below_set ?_ GE240.out) | exact HB.out)))
         (case aF => exact (fun k_ hk => Kd.freshB (g := gb239) (o := .cells #[.int .i64 a0_0, .int .i64 a0_1, .int .i64 a0_2] 23 (0, 0)) (by (with_reducible repeat (first | refine blk_drewN ?_ _ | refine blk_drew ?_ | refine blk_alloc ?_ _)); exact BK239.out) k_ hk))
         (case aO => exact (by (with_reducible repeat (first | apply Kd.R_alloc | apply Kd.R_drewN | apply Kd.R_drew)); exact HO_12.out))
         (case aS => exact (below_size (by first | exact HB.out | exact pw_below_drewN HB.out _)))
         (case aL => have := LMc29.out; omega)
         intro v256 w34 ho hb hg hat
         rw [← Ny255.out] at ho
         have n0_ := Aside0.mk (blk_grown (g := gb239) (o := .cells #[.int .i64 a0_0, .int .i64 a0_1, .int .i64 a0_2] 23 (0, 0)) (by (with_reducible repeat (first | refine blk_drewN ?_ _ | refine blk_drew ?_ | refine blk_alloc ?_ _)); exact BK239.out) hg (Kd.R_away HO_12.out (fun _ hk => hk)))
         have n1_ := Aside0.mk (blk_grown (g := gb240) (o := .cells #[.int .i64 a1_0, .int .i64 a1_1, .int .i64 a1_2, .int .i64 a1_3, .int .i64 a1_4, .int .i64 a1_5, .int .i64 a1_6] 27 (0, 0)) (by (with_reducible repeat (first | refine blk_drewN ?_ _ | refine blk_drew ?_ | refine blk_alloc ?_ _)); exact BK240.out) hg (Kd.R_ne HO_12.out BK240.out (by decide)))
         have n2_ := Aside0.mk (hb)
         have n3_ := Aside0.mk (ho)
         clear BK239
         clear BK240
         clear HB
         clear HO_12
         have BK239 := n0_
         have BK240 := n1_
         have HB := n2_
         have HO257 := n3_
         clear n0_ n1_ n2_ n3_
         clear ho hb hg hat
         refine hK.out _ _ ⟨(blk_cell BK240.out 0).trans rfl, (blk_cell BK240.out 1).trans rfl, (blk_cell BK240.out 2).trans rfl, (blk_cell BK240.out 3).trans rfl, (blk_cell BK240.out 4).trans rfl, (blk_cell BK240.out 5).trans rfl, (blk_cell BK240.out 6).trans rfl, (blk_cell BK239.out 0).trans rfl, (blk_cell BK239.out 1).trans rfl, (blk_cell BK239.out 2).trans rfl⟩ (fun hHeld => ?_)
         clear hK K
         refine norm_ (a' := ?_) ?_ ?_
         rotate_left
         ·show Act.put _ (some 141) _ = _
          simp only [Act.put, List.setIfInBounds_toArray, List.set_cons_zero, List.set_cons_succ, i64_w, i32_w]
          rfl
         refine pu 28 12 (bzz 29 536870911) (any_of HT_.out (by kernel_rfl)) ?_
         refine done_ (done_of HT_.out (by kernel_rfl)) ?_
         try go_wp2
         go_roundg k1
         case measure => have := HK1.out; omega
         case rel => exact ⟨(y255), (wrap64 (x13_1 + 1)), (by first | rfl | (simp; done) | (simp [*]; done)), H', ⟨by have := HK1.out; omega⟩, ⟨by (with_reducible repeat (first | apply Kd.R_alloc | apply Kd.R_drewN | apply Kd.R_drew)); exact HO257.out⟩, ⟨by (with_reducible repeat (first | refine blk_drewN ?_ _ | refine blk_drew ?_ | refine blk_alloc ?_ _)); exact BK239.out⟩, ⟨by (with_reducible repeat (first | refine blk_drewN ?_ _ | refine blk_drew ?_ | refine blk_alloc ?_ _)); exact BK240.out⟩, ⟨by repeat (first | (with_reducible first | exact HB.out | apply below_alloc | apply pw_below_drewN | apply below_drew1 | refine below_set ?_ GE239.out | refine below_set ?_ GE240.out) | exact HB.out)⟩⟩
        ·rw [if_neg c29] at H
         exact absurd H (by simp)
    ·rw [if_neg c15] at H
     have c15b0 : decide (x13_1 < (wrap64 (t241 * t245))) = false := decide_eq_false c15
     clear c15
     by_cases c35 : (x12_1.length : Int) > 20000
     ·rw [if_pos c35] at H
      have c35b0 : decide (20000 < (x12_1.length : Int)) = true := decide_eq_true c35
      have c35b1 : decide (20000 < x12_1.length) = true := decide_eq_true (by omega)
      clear c35
      simp only [Option.some.injEq, Prod.mk.injEq] at H
      obtain ⟨rfl, rfl⟩ := H
      obtain ⟨Ao36, co36, eo36⟩ := Kd.R_slice HO_12.out
      subst eo36
      go_wp2
      go_ret2
      exact ⟨_, by first | rfl | (simp [errW_none, errW_some] <;> rfl) | (simp [*, errW_none, errW_some] <;> rfl), by first | exact Kd.R_nil _ _ _ _ _ | exact Kd.N_nil _ _ _ _ _ | exact Kd.V_nil _ _ _ _ _ | exact Kd.Q_nil _ _ _ _ _ | exact Kd.S_nil _ _ _ _ _, by repeat (first | (with_reducible first | exact HB.out | apply below_alloc | apply pw_below_drewN | apply below_drew1 | refine below_set ?_ GE239.out | refine below_set ?_ GE240.out) | exact HB.out)⟩
     ·rw [if_neg c35] at H
      have c35b0 : decide (20000 < (x12_1.length : Int)) = false := decide_eq_false c35
      have c35b1 : decide (20000 < x12_1.length) = false := decide_eq_false (by omega)
      clear c35
      simp only [Option.some.injEq, Prod.mk.injEq] at H
      obtain ⟨rfl, rfl⟩ := H
      obtain ⟨Ao37, co37, eo37⟩ := Kd.R_slice HO_12.out
      subst eo37
      go_wp2
      go_ret2
      exact ⟨_, by first | rfl | (simp [errW_none, errW_some] <;> rfl) | (simp [*, errW_none, errW_some] <;> rfl), by (with_reducible repeat (first | apply Kd.R_alloc | apply Kd.R_drewN | apply Kd.R_drew)); exact Kd.R_mono HO_12.out (fun _ hk => trivial), by repeat (first | (with_reducible first | exact HB.out | apply below_alloc | apply pw_below_drewN | apply below_drew1 | refine below_set ?_ GE239.out | refine below_set ?_ GE240.out) | exact HB.out)⟩
 ·rw [if_neg c4] at H
  have c4b0 : (t242 == 0) = false := beq_eq_false_iff_ne.mpr c4
  have c4b1 : (t242 != 0) = true := bne_iff_ne.mpr c4
  simp only [Option.some.injEq, Prod.mk.injEq] at H
  obtain ⟨rfl, rfl⟩ := H
  go_enter Try.func19, Try.ntmps19
  go_wp2_with (first | ((with_reducible refine gate_dst (N := 2) rfl ?_); refine box_event ?hg (N := 2) ?hd (cs := #[.int .i64 a0_0, .int .i64 a0_1, .int .i64 a0_2]) (t := 23) ?hr ?_; (case hd => rfl); (case hg => rfl); (case hr => first | (go_simp; done) | (go_simp; rfl)); intro gb239 hg w38 hbox hb; have n0_ := Aside0.mk (below_step (by first | exact HB.out | exact pw_below_drewN HB.out _) hb); have n1_ := Aside0.mk (hbox); have n2_ := Aside0.mk ((by rw [hg]; exact (below_size (by first | exact HB.out | exact pw_below_drewN HB.out _)) : w.heap.size ≤ gb239)); have n3_ := Aside0.mk ((by rw [hg]; exact (below_size (by first | exact HB.out | exact pw_below_drewN HB.out _)) : w.heap.size ≤ gb239)); clear HB; have HB := n0_; have BK239 := n1_; have GW239 := n2_; have GE239 := n3_; clear n0_ n1_ n2_ n3_; clear hb hbox hg) | ((with_reducible refine gate_dst (N := 3) rfl ?_); refine box_event ?hg (N := 3) ?hd (cs := #[.int .i64 a1_0, .int .i64 a1_1, .int .i64 a1_2, .int .i64 a1_3, .int .i64 a1_4, .int .i64 a1_5, .int .i64 a1_6]) (t := 27) ?hr ?_; (case hd => rfl); (case hg => rfl); (case hr => first | (go_simp; done) | (go_simp; rfl)); intro gb240 hg w39 hbox hb; have n0_ := Aside0.mk (blk_below (by exact BK239.out) hb); have n1_ := Aside0.mk (below_step (by first | exact HB.out | exact pw_below_drewN HB.out _) hb); have n2_ := Aside0.mk (hbox); have n3_ := Aside0.mk ((by rw [hg]; exact (below_size (by first | exact HB.out | exact pw_below_drewN HB.out _)) : w.heap.size ≤ gb240)); have n4_ := Aside0.mk ((by rw [hg]; exact (below_size (by first | exact HB.out | exact pw_below_drewN HB.out _)) : w.heap.size ≤ gb240)); have n5_ := Aside0.mk ((by rw [hg]; exact Nat.ne_of_lt (blk_lt (g := gb239) (o := .cells #[.int .i64 a0_0, .int .i64 a0_1, .int .i64 a0_2] 23 (0, 0)) (by (with_reducible repeat (first | refine blk_drewN ?_ _ | refine blk_drew ?_ | refine blk_alloc ?_ _)); exact BK239.out)) : gb239 ≠ gb240)); have n6_ := Aside0.mk ((by rw [hg]; exact Nat.ne_of_gt (blk_lt (g := gb239) (o := .cells #[.int .i64 a0_0, .int .i64 a0_1, .int .i64 a0_2] 23 (0, 0)) (by (with_reducible repeat (first | refine blk_drewN ?_ _ | refine blk_drew ?_ | refine blk_alloc ?_ _)); exact BK239.out)) : gb240 ≠ gb239)); clear BK239; clear HB; have BK239 := n0_; have HB := n1_; have BK240 := n2_; have GW240 := n3_; have GE240 := n4_; have NB239_240 := n5_; have NB240_239 := n6_; clear n0_ n1_ n2_ n3_ n4_ n5_ n6_; clear hb hbox hg; have hnb40 := NB239_240.out; have hnc40 := NB240_239.out; obtain ⟨hcz41_0, hcz41_1, hcz41_2⟩ := cells3 BK239.out; obtain ⟨hcz42_0, hcz42_1, hcz42_2, hcz42_3, hcz42_4, hcz42_5, hcz42_6⟩ := cells7 BK240.out) | ((with_reducible refine gate_callee (f := 13) rfl ?_); refine goesL_ (some 23) rfl rfl Try.func13 (by kernel_rfl) rfl #[.agg #[.int .i64 a0_0, .int .i64 a0_1, .int .i64 a0_2], .agg #[.int .i64 a1_0, .int .i64 a1_1, .int .i64 a1_2, .int .i64 a1_3, .int .i64 a1_4, .int .i64 a1_5, .int .i64 a1_6]] rfl (by (try simp only [List.map_toArray, List.map_cons, List.map_nil]); first | done | rfl | (simp only [List.length_drop, List.length_take]; rfl)) ?_; (with_reducible refine (swarfref33_Quarters.calls k a0_0 a0_1 a0_2 a1_0 a1_1 a1_2 a1_3 a1_4 a1_5 a1_6 t241 t242 _ A3.out).mono ?_); rintro e w43 ⟨rfl, hb⟩; refine ⟨_, rfl, ?_⟩; have n0_ := Aside0.mk (blk_below (by exact BK239.out) hb); have n1_ := Aside0.mk (blk_below (by exact BK240.out) hb); have n2_ := Aside0.mk (below_step (by first | exact HB.out | exact pw_below_drewN HB.out _) hb); clear BK239; clear BK240; clear HB; have BK239 := n0_; have BK240 := n1_; have HB := n2_; clear n0_ n1_ n2_; (try clear hb); (try clear hb2); (try clear hk); (try clear hi)))
  go_ret2
  exact ⟨_, by first | rfl | (simp [errW_none, errW_some] <;> rfl) | (simp [*, errW_none, errW_some] <;> rfl), by first | exact Kd.R_nil _ _ _ _ _ | exact Kd.N_nil _ _ _ _ _ | exact Kd.V_nil _ _ _ _ _ | exact Kd.Q_nil _ _ _ _ _ | exact Kd.S_nil _ _ _ _ _, by repeat (first | (with_reducible first | exact HB.out | apply below_alloc | apply pw_below_drewN | apply below_drew1 | refine below_set ?_ GE239.out | refine below_set ?_ GE240.out) | exact HB.out)⟩
end Go.Proofs.Ytblonchpophnkaa.F
