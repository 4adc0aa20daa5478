-- The machine side of a proof, written by a program of the session out of Lean's print of the loaded functions. Lean checks it.
import Derived.Test.YtblonchpophnkaaWc
import Derived.Test.YtblonchpophnkaaFx0
import Derived.Test.YtblonchpophnkaaFx14
import Derived.Test.YtblonchpophnkaaFx15
import Derived.Test.YtblonchpophnkaaFx16
import Derived.Test.YtblonchpophnkaaFx18
namespace Go.Proofs.Ytblonchpophnkaa.F
open Go.RowKit Go.Proofs.YtblonchpophnkaaW.PrintWords Go.Proofs.YtblonchpophnkaaW.PrintLast Go.Proofs.YtblonchpophnkaaW.PrintMore
attribute [local go_sem] max2_int min2_int max_two min_two max_three min_three max_four min_four   -- for this text's walks alone
set_option linter.unusedVariables false
set_option linter.unusedSimpArgs false
mutual
def swarfref33_Valid.j0 : Nat → Bool → Int → Int → Int → Int → Int → Int → Int → Int → Int → Int → Option (Int)
 | 0, _, _, _, _, _, _, _, _, _, _, _ => none
 | k + 1, x5, x187000, x187001, x187002, x188000, x188001, x188002, x188003, x188004, x188005, x188006 => if x5 = true then (swarfref33_Valid.j1 k x5 false x187000 x187001 x187002 x188000 x188001 x188002 x188003 x188004 x188005 x188006) else ((swarfref33_arc.f x188000 x188001 x188002 x188003 x188004 x188005 x188006).bind fun t188 => (if t188 = true then (swarfref33_Valid.j1 k x5 (decide (x188006 ≤ 0)) x187000 x187001 x187002 x188000 x188001 x188002 x188003 x188004 x188005 x188006) else (swarfref33_Valid.j1 k x5 true x187000 x187001 x187002 x188000 x188001 x188002 x188003 x188004 x188005 x188006)))
def swarfref33_Valid.j1 : Nat → Bool → Bool → Int → Int → Int → Int → Int → Int → Int → Int → Int → Int → Option (Int)
 | 0, _, _, _, _, _, _, _, _, _, _, _, _ => none
 | k + 1, x5, x40, x187000, x187001, x187002, x188000, x188001, x188002, x188003, x188004, x188005, x188006 => if x40 = true then (some 1) else ((swarfref33_far.f x187000).bind fun t189 => (if t189 = true then (swarfref33_Valid.j2 k x5 true x187000 x187001 x187002 x188000 x188001 x188002 x188003 x188004 x188005 x188006) else ((swarfref33_far.f x187001).bind fun t190 => (if t190 = true then (swarfref33_Valid.j2 k x5 true x187000 x187001 x187002 x188000 x188001 x188002 x188003 x188004 x188005 x188006) else ((swarfref33_far.f x187002).bind fun t191 => (if t191 = true then (swarfref33_Valid.j2 k x5 true x187000 x187001 x187002 x188000 x188001 x188002 x188003 x188004 x188005 x188006) else ((swarfref33_far.f x188001).bind fun t192 => (if t192 = true then (swarfref33_Valid.j2 k x5 true x187000 x187001 x187002 x188000 x188001 x188002 x188003 x188004 x188005 x188006) else ((swarfref33_far.f x188002).bind fun t193 => (if t193 = true then (swarfref33_Valid.j2 k x5 true x187000 x187001 x187002 x188000 x188001 x188002 x188003 x188004 x188005 x188006) else ((swarfref33_far.f x188003).bind fun t194 => (swarfref33_Valid.j2 k x5 t194 x187000 x187001 x187002 x188000 x188001 x188002 x188003 x188004 x188005 x188006))))))))))))
def swarfref33_Valid.j2 : Nat → Bool → Bool → Int → Int → Int → Int → Int → Int → Int → Int → Int → Int → Option (Int)
 | 0, _, _, _, _, _, _, _, _, _, _, _, _ => none
 | k + 1, x5, x6, x187000, x187001, x187002, x188000, x188001, x188002, x188003, x188004, x188005, x188006 => if x5 = true then (if x6 = true then (some 11) else (some 0)) else (if x6 = true then (swarfref33_Valid.j3 k true x187000 x187001 x187002 x188000 x188001 x188002 x188003 x188004 x188005 x188006) else ((swarfref33_far.f x188004).bind fun t195 => (if t195 = true then (swarfref33_Valid.j3 k true x187000 x187001 x187002 x188000 x188001 x188002 x188003 x188004 x188005 x188006) else ((swarfref33_far.f x188005).bind fun t196 => (swarfref33_Valid.j3 k t196 x187000 x187001 x187002 x188000 x188001 x188002 x188003 x188004 x188005 x188006)))))
def swarfref33_Valid.j3 : Nat → Bool → Int → Int → Int → Int → Int → Int → Int → Int → Int → Int → Option (Int)
 | 0, _, _, _, _, _, _, _, _, _, _, _ => none
 | k + 1, x86, x187000, x187001, x187002, x188000, x188001, x188002, x188003, x188004, x188005, x188006 => if x86 = true then ((swarfref33_right.f x187000 x187001 x187002 x188000 x188001 x188002 x188003 x188004 x188005 x188006).bind fun t197 => (if t197 = true then (some 11) else (some 1))) else ((swarfref33_quadrant.f k (wrap64 (x187000 - x188004)) (wrap64 (x187001 - x188005))).bind fun bt198 => ((swarfref33_quadrant.f k (wrap64 (x188001 - x188004)) (wrap64 (x188002 - x188005))).bind fun bt200 => (if bt198.1 < 0 then (swarfref33_Valid.j4 k bt198.2 true x188000 x188001 x188002 x188003 x188004 x188005 x188006) else (if bt200.1 < 0 then (swarfref33_Valid.j4 k bt198.2 true x188000 x188001 x188002 x188003 x188004 x188005 x188006) else (swarfref33_Valid.j4 k bt198.2 (bt198.2 != bt200.2) x188000 x188001 x188002 x188003 x188004 x188005 x188006)))))
def swarfref33_Valid.j4 : Nat → Int → Bool → Int → Int → Int → Int → Int → Int → Int → Option (Int)
 | 0, _, _, _, _, _, _, _, _, _ => none
 | k + 1, x8, x135, x188000, x188001, x188002, x188003, x188004, x188005, x188006 => if x135 = true then (some 1) else ((swarfref33_far.f (wrap64 (x188004 + x8))).bind fun t202 => (if t202 = true then (some 11) else ((swarfref33_far.f (wrap64 (x188004 - x8))).bind fun t203 => (if t203 = true then (some 11) else ((swarfref33_far.f (wrap64 (x188005 + x8))).bind fun t204 => (if t204 = true then (some 11) else ((swarfref33_far.f (wrap64 (x188005 - x8))).bind fun t205 => (if t205 = true then (some 11) else (some 0)))))))))
end
def swarfref33_Valid.f (k : Nat) (a0_0 : Int) (a0_1 : Int) (a0_2 : Int) (a1_0 : Int) (a1_1 : Int) (a1_2 : Int) (a1_3 : Int) (a1_4 : Int) (a1_5 : Int) (a1_6 : Int) : Option (Int) := if a1_0 = 1 then (if a1_6 = 0 then (swarfref33_Valid.j0 k true a0_0 a0_1 a0_2 a1_0 a1_1 a1_2 a1_3 a1_4 a1_5 a1_6) else (if a1_0 = 2 then (swarfref33_Valid.j0 k (decide (a1_6 > 0)) a0_0 a0_1 a0_2 a1_0 a1_1 a1_2 a1_3 a1_4 a1_5 a1_6) else (swarfref33_Valid.j0 k false a0_0 a0_1 a0_2 a1_0 a1_1 a1_2 a1_3 a1_4 a1_5 a1_6))) else (if a1_0 = 2 then (swarfref33_Valid.j0 k (decide (a1_6 > 0)) a0_0 a0_1 a0_2 a1_0 a1_1 a1_2 a1_3 a1_4 a1_5 a1_6) else (swarfref33_Valid.j0 k false a0_0 a0_1 a0_2 a1_0 a1_1 a1_2 a1_3 a1_4 a1_5 a1_6))
theorem swarfref33_Valid.mono_l : ∀ k, (∀ y0 y1 y2 y3 y4 y5 y6 y7 y8 y9 y10, LeO (swarfref33_Valid.j0 k y0 y1 y2 y3 y4 y5 y6 y7 y8 y9 y10) (swarfref33_Valid.j0 (k + 1) y0 y1 y2 y3 y4 y5 y6 y7 y8 y9 y10)) ∧ (∀ y0 y1 y2 y3 y4 y5 y6 y7 y8 y9 y10 y11, LeO (swarfref33_Valid.j1 k y0 y1 y2 y3 y4 y5 y6 y7 y8 y9 y10 y11) (swarfref33_Valid.j1 (k + 1) y0 y1 y2 y3 y4 y5 y6 y7 y8 y9 y10 y11)) ∧ (∀ y0 y1 y2 y3 y4 y5 y6 y7 y8 y9 y10 y11, LeO (swarfref33_Valid.j2 k y0 y1 y2 y3 y4 y5 y6 y7 y8 y9 y10 y11) (swarfref33_Valid.j2 (k + 1) y0 y1 y2 y3 y4 y5 y6 y7 y8 y9 y10 y11)) ∧ (∀ y0 y1 y2 y3 y4 y5 y6 y7 y8 y9 y10, LeO (swarfref33_Valid.j3 k y0 y1 y2 y3 y4 y5 y6 y7 y8 y9 y10) (swarfref33_Valid.j3 (k + 1) y0 y1 y2 y3 y4 y5 y6 y7 y8 y9 y10)) ∧ (∀ y0 y1 y2 y3 y4 y5 y6 y7 y8, LeO (swarfref33_Valid.j4 k y0 y1 y2 y3 y4 y5 y6 y7 y8) (swarfref33_Valid.j4 (k + 1) y0 y1 y2 y3 y4 y5 y6 y7 y8))
 | 0 => ⟨fun _ _ _ _ _ _ _ _ _ _ _ r h => by simp [swarfref33_Valid.j0] at h, fun _ _ _ _ _ _ _ _ _ _ _ _ r h => by simp [swarfref33_Valid.j1] at h, fun _ _ _ _ _ _ _ _ _ _ _ _ r h => by simp [swarfref33_Valid.j2] at h, fun _ _ _ _ _ _ _ _ _ _ _ r h => by simp [swarfref33_Valid.j3] at h, fun _ _ _ _ _ _ _ _ _ r h => by simp [swarfref33_Valid.j4] at h⟩
 | k + 1 => by
  obtain ⟨ih0, ih1, ih2, ih3, ih4⟩ := swarfref33_Valid.mono_l k
  refine ⟨?_, ?_, ?_, ?_, ?_⟩
  ·intro y0 y1 y2 y3 y4 y5 y6 y7 y8 y9 y10
   unfold swarfref33_Valid.j0
   repeat' first
   | (with_reducible exact ih0 _ _ _ _ _ _ _ _ _ _ _)
   | (with_reducible exact ih1 _ _ _ _ _ _ _ _ _ _ _ _)
   | (with_reducible exact ih2 _ _ _ _ _ _ _ _ _ _ _ _)
   | (with_reducible exact ih3 _ _ _ _ _ _ _ _ _ _ _)
   | (with_reducible exact ih4 _ _ _ _ _ _ _ _ _)
   | (with_reducible exact swarfref33_quadrant.mono _ _ _)
   | (with_reducible exact LeO.refl _)
   | (with_reducible exact LeO.none _)
   | (with_reducible refine LeO.ite ?_ ?_)
   | (with_reducible refine LeO.bind ?_ (fun _ => ?_))
   | exact ih0 _ _ _ _ _ _ _ _ _ _ _
   | exact ih1 _ _ _ _ _ _ _ _ _ _ _ _
   | exact ih2 _ _ _ _ _ _ _ _ _ _ _ _
   | exact ih3 _ _ _ _ _ _ _ _ _ _ _
   | exact ih4 _ _ _ _ _ _ _ _ _
   | exact swarfref33_quadrant.mono _ _ _
   | exact LeO.none _
   | refine LeO.ite ?_ ?_
   | refine LeO.bind ?_ (fun _ => ?_)
  ·intro y0 y1 y2 y3 y4 y5 y6 y7 y8 y9 y10 y11
   unfold swarfref33_Valid.j1
   repeat' first
   | (with_reducible exact ih0 _ _ _ _ _ _ _ _ _ _ _)
   | (with_reducible exact ih1 _ _ _ _ _ _ _ _ _ _ _ _)
   | (with_reducible exact ih2 _ _ _ _ _ _ _ _ _ _ _ _)
   | (with_reducible exact ih3 _ _ _ _ _ _ _ _ _ _ _)
   | (with_reducible exact ih4 _ _ _ _ _ _ _ _ _)
   | (with_reducible exact swarfref33_quadrant.mono _ _ _)
   | (with_reducible exact LeO.refl _)
   | (with_reducible exact LeO.none _)
   | (with_reducible refine LeO.ite ?_ ?_)
   | (with_reducible refine LeO.bind ?_ (fun _ => ?_))
   | exact ih0 _ _ _ _ _ _ _ _ _ _ _
   | exact ih1 _ _ _ _ _ _ _ _ _ _ _ _
   | exact ih2 _ _ _ _ _ _ _ _ _ _ _ _
   | exact ih3 _ _ _ _ _ _ _ _ _ _ _
   | exact ih4 _ _ _ _ _ _ _ _ _
   | exact swarfref33_quadrant.mono _ _ _
   | exact LeO.none _
   | refine LeO.ite ?_ ?_
   | refine LeO.bind ?_ (fun _ => ?_)
  ·intro y0 y1 y2 y3 y4 y5 y6 y7 y8 y9 y10 y11
   unfold swarfref33_Valid.j2
   repeat' first
   | (with_reducible exact ih0 _ _ _ _ _ _ _ _ _ _ _)
   | (with_reducible exact ih1 _ _ _ _ _ _ _ _ _ _ _ _)
   | (with_reducible exact ih2 _ _ _ _ _ _ _ _ _ _ _ _)
   | (with_reducible exact ih3 _ _ _ _ _ _ _ _ _ _ _)
   | (with_reducible exact ih4 _ _ _ _ _ _ _ _ _)
   | (with_reducible exact swarfref33_quadrant.mono _ _ _)
   | (with_reducible exact LeO.refl _)
   | (with_reducible exact LeO.none _)
   | (with_reducible refine LeO.ite ?_ ?_)
   | (with_reducible refine LeO.bind ?_ (fun _ => ?_))
   | exact ih0 _ _ _ _ _ _ _ _ _ _ _
   | exact ih1 _ _ _ _ _ _ _ _ _ _ _ _
   | exact ih2 _ _ _ _ _ _ _ _ _ _ _ _
   | exact ih3 _ _ _ _ _ _ _ _ _ _ _
   | exact ih4 _ _ _ _ _ _ _ _ _
   | exact swarfref33_quadrant.mono _ _ _
   | exact LeO.none _
   | refine LeO.ite ?_ ?_
   | refine LeO.bind ?_ (fun _ => ?_)
  ·intro y0 y1 y2 y3 y4 y5 y6 y7 y8 y9 y10
   unfold swarfref33_Valid.j3
   repeat' first
   | (with_reducible exact ih0 _ _ _ _ _ _ _ _ _ _ _)
   | (with_reducible exact ih1 _ _ _ _ _ _ _ _ _ _ _ _)
   | (with_reducible exact ih2 _ _ _ _ _ _ _ _ _ _ _ _)
   | (with_reducible exact ih3 _ _ _ _ _ _ _ _ _ _ _)
   | (with_reducible exact ih4 _ _ _ _ _ _ _ _ _)
   | (with_reducible exact swarfref33_quadrant.mono _ _ _)
   | (with_reducible exact LeO.refl _)
   | (with_reducible exact LeO.none _)
   | (with_reducible refine LeO.ite ?_ ?_)
   | (with_reducible refine LeO.bind ?_ (fun _ => ?_))
   | exact ih0 _ _ _ _ _ _ _ _ _ _ _
   | exact ih1 _ _ _ _ _ _ _ _ _ _ _ _
   | exact ih2 _ _ _ _ _ _ _ _ _ _ _ _
   | exact ih3 _ _ _ _ _ _ _ _ _ _ _
   | exact ih4 _ _ _ _ _ _ _ _ _
   | exact swarfref33_quadrant.mono _ _ _
   | exact LeO.none _
   | refine LeO.ite ?_ ?_
   | refine LeO.bind ?_ (fun _ => ?_)
  ·intro y0 y1 y2 y3 y4 y5 y6 y7 y8
   unfold swarfref33_Valid.j4
   repeat' first
   | (with_reducible exact ih0 _ _ _ _ _ _ _ _ _ _ _)
   | (with_reducible exact ih1 _ _ _ _ _ _ _ _ _ _ _ _)
   | (with_reducible exact ih2 _ _ _ _ _ _ _ _ _ _ _ _)
   | (with_reducible exact ih3 _ _ _ _ _ _ _ _ _ _ _)
   | (with_reducible exact ih4 _ _ _ _ _ _ _ _ _)
   | (with_reducible exact swarfref33_quadrant.mono _ _ _)
   | (with_reducible exact LeO.refl _)
   | (with_reducible exact LeO.none _)
   | (with_reducible refine LeO.ite ?_ ?_)
   | (with_reducible refine LeO.bind ?_ (fun _ => ?_))
   | exact ih0 _ _ _ _ _ _ _ _ _ _ _
   | exact ih1 _ _ _ _ _ _ _ _ _ _ _ _
   | exact ih2 _ _ _ _ _ _ _ _ _ _ _ _
   | exact ih3 _ _ _ _ _ _ _ _ _ _ _
   | exact ih4 _ _ _ _ _ _ _ _ _
   | exact swarfref33_quadrant.mono _ _ _
   | exact LeO.none _
   | refine LeO.ite ?_ ?_
   | refine LeO.bind ?_ (fun _ => ?_)
theorem swarfref33_Valid.mono : ∀ a0 a1 a2 a3 a4 a5 a6 a7 a8 a9 k, LeO (swarfref33_Valid.f k a0 a1 a2 a3 a4 a5 a6 a7 a8 a9) (swarfref33_Valid.f (k + 1) a0 a1 a2 a3 a4 a5 a6 a7 a8 a9) := by
 intro a0 a1 a2 a3 a4 a5 a6 a7 a8 a9 k
 obtain ⟨ih0, ih1, ih2, ih3, ih4⟩ := swarfref33_Valid.mono_l k
 unfold swarfref33_Valid.f
 repeat' first
   | (with_reducible exact ih0 _ _ _ _ _ _ _ _ _ _ _)
   | (with_reducible exact ih1 _ _ _ _ _ _ _ _ _ _ _ _)
   | (with_reducible exact ih2 _ _ _ _ _ _ _ _ _ _ _ _)
   | (with_reducible exact ih3 _ _ _ _ _ _ _ _ _ _ _)
   | (with_reducible exact ih4 _ _ _ _ _ _ _ _ _)
   | (with_reducible exact swarfref33_quadrant.mono _ _ _)
   | (with_reducible exact LeO.refl _)
   | (with_reducible exact LeO.none _)
   | (with_reducible refine LeO.ite ?_ ?_)
   | (with_reducible refine LeO.bind ?_ (fun _ => ?_))
   | exact ih0 _ _ _ _ _ _ _ _ _ _ _
   | exact ih1 _ _ _ _ _ _ _ _ _ _ _ _
   | exact ih2 _ _ _ _ _ _ _ _ _ _ _ _
   | exact ih3 _ _ _ _ _ _ _ _ _ _ _
   | exact ih4 _ _ _ _ _ _ _ _ _
   | exact swarfref33_quadrant.mono _ _ _
   | exact LeO.none _
   | refine LeO.ite ?_ ?_
   | refine LeO.bind ?_ (fun _ => ?_)
set_option maxHeartbeats 8000000 in
set_option maxRecDepth 100000 in
theorem swarfref33_Valid.calls (k : Nat) (a0_0 : Int) (a0_1 : Int) (a0_2 : Int) (a1_0 : Int) (a1_1 : Int) (a1_2 : Int) (a1_3 : Int) (a1_4 : Int) (a1_5 : Int) (a1_6 : Int) (r : Int) (w : World) (h : swarfref33_Valid.f k a0_0 a0_1 a0_2 a1_0 a1_1 a1_2 a1_3 a1_4 a1_5 a1_6 = some r) :
  Calls Try.prog 15 #[.agg #[.int .i64 a0_0, .int .i64 a0_1, .int .i64 a0_2], .agg #[.int .i64 a1_0, .int .i64 a1_1, .int .i64 a1_2, .int .i64 a1_3, .int .i64 a1_4, .int .i64 a1_5, .int .i64 a1_6]] w fun e w' => e = .returned (.int .i64 r) ∧ Below w.heap.size w w' := by
 have hu23 := Try.underlying23
 have hu27 := Try.underlying27
 have HB := Aside0.mk (Below.refl w.heap.size w)
 have H : (if a1_0 = 1 then (if a1_6 = 0 then (swarfref33_Valid.j0 k true a0_0 a0_1 a0_2 a1_0 a1_1 a1_2 a1_3 a1_4 a1_5 a1_6) else (if a1_0 = 2 then (swarfref33_Valid.j0 k (decide (a1_6 > 0)) a0_0 a0_1 a0_2 a1_0 a1_1 a1_2 a1_3 a1_4 a1_5 a1_6) else (swarfref33_Valid.j0 k false a0_0 a0_1 a0_2 a1_0 a1_1 a1_2 a1_3 a1_4 a1_5 a1_6))) else (if a1_0 = 2 then (swarfref33_Valid.j0 k (decide (a1_6 > 0)) a0_0 a0_1 a0_2 a1_0 a1_1 a1_2 a1_3 a1_4 a1_5 a1_6) else (swarfref33_Valid.j0 k false a0_0 a0_1 a0_2 a1_0 a1_1 a1_2 a1_3 a1_4 a1_5 a1_6))) = some r := h
 clear h
 have HC3 := Aside0.mk H
 clear H
 go_enter Try.func15, Try.ntmps15
 go_upto_region 1 with (first | ((with_reducible refine gate_dst (N := 2) rfl ?_); refine box_event ?hg (N := 2) ?hd (cs := #[.int .i64 a0_0, .int .i64 a0_1, .int .i64 a0_2]) (t := 23) ?hr ?_; (case hd => rfl); (case hg => rfl); (case hr => first | (go_simp; done) | (go_simp; rfl)); intro gb186 hg w4 hbox hb; have n0_ := Aside0.mk (below_step (by first | exact HB.out | exact pw_below_drewN HB.out _) hb); have n1_ := Aside0.mk (hbox); have n2_ := Aside0.mk ((by rw [hg]; exact (below_size (by first | exact HB.out | exact pw_below_drewN HB.out _)) : w.heap.size ≤ gb186)); have n3_ := Aside0.mk ((by rw [hg]; exact (below_size (by first | exact HB.out | exact pw_below_drewN HB.out _)) : w.heap.size ≤ gb186)); clear HB; have HB := n0_; have BK186 := n1_; have GW186 := n2_; have GE186 := n3_; clear n0_ n1_ n2_ n3_; clear hb hbox hg) | ((with_reducible refine gate_dst (N := 3) rfl ?_); refine box_event ?hg (N := 3) ?hd (cs := #[.int .i64 a1_0, .int .i64 a1_1, .int .i64 a1_2, .int .i64 a1_3, .int .i64 a1_4, .int .i64 a1_5, .int .i64 a1_6]) (t := 27) ?hr ?_; (case hd => rfl); (case hg => rfl); (case hr => first | (go_simp; done) | (go_simp; rfl)); intro gb187 hg w5 hbox hb; have n0_ := Aside0.mk (blk_below (by exact BK186.out) hb); have n1_ := Aside0.mk (below_step (by first | exact HB.out | exact pw_below_drewN HB.out _) hb); have n2_ := Aside0.mk (hbox); have n3_ := Aside0.mk ((by rw [hg]; exact (below_size (by first | exact HB.out | exact pw_below_drewN HB.out _)) : w.heap.size ≤ gb187)); have n4_ := Aside0.mk ((by rw [hg]; exact (below_size (by first | exact HB.out | exact pw_below_drewN HB.out _)) : w.heap.size ≤ gb187)); have n5_ := Aside0.mk ((by rw [hg]; exact Nat.ne_of_lt (blk_lt (g := gb186) (o := .cells #[.int .i64 a0_0, .int .i64 a0_1, .int .i64 a0_2] 23 (0, 0)) (by (with_reducible repeat (first | refine blk_drewN ?_ _ | refine blk_drew ?_ | refine blk_alloc ?_ _)); exact BK186.out)) : gb186 ≠ gb187)); have n6_ := Aside0.mk ((by rw [hg]; exact Nat.ne_of_gt (blk_lt (g := gb186) (o := .cells #[.int .i64 a0_0, .int .i64 a0_1, .int .i64 a0_2] 23 (0, 0)) (by (with_reducible repeat (first | refine blk_drewN ?_ _ | refine blk_drew ?_ | refine blk_alloc ?_ _)); exact BK186.out)) : gb187 ≠ gb186)); clear BK186; clear HB; have BK186 := n0_; have HB := n1_; have BK187 := n2_; have GW187 := n3_; have GE187 := n4_; have NB186_187 := n5_; have NB187_186 := n6_; clear n0_ n1_ n2_ n3_ n4_ n5_ n6_; clear hb hbox hg))
 (try simp only [Act.put, List.setIfInBounds_toArray, List.set_cons_zero, List.set_cons_succ])
 go_cut [5] (fun v5 wc => ∃ (kq : Nat) (x5_2 : Bool), v5 = .bool x5_2 ∧ Aside0 (swarfref33_Valid.j0 kq x5_2 a0_0 a0_1 a0_2 a1_0 a1_1 a1_2 a1_3 a1_4 a1_5 a1_6 = some r) ∧ Aside0 (kq ≤ k) ∧ Aside0 (wc.heap[gb186]? = some (.cells #[.int .i64 a0_0, .int .i64 a0_1, .int .i64 a0_2] 23 (0, 0))) ∧ Aside0 (wc.heap[gb187]? = some (.cells #[.int .i64 a1_0, .int .i64 a1_1, .int .i64 a1_2, .int .i64 a1_3, .int .i64 a1_4, .int .i64 a1_5, .int .i64 a1_6] 27 (0, 0))) ∧ Aside0 (Below w.heap.size w wc))
 case first =>
  have H := HC3.out
  clear HC3
  by_cases c6 : a1_0 = 1
  ·rw [if_pos c6] at H
   have c6b0 : (a1_0 == 1) = true := beq_iff_eq.mpr c6
   have c6b1 : (a1_0 != 1) = false := bne_eq_false_iff_eq.mpr c6
   clear c6
   (first | rw [c6b0] | (simp only [i64_w, i32_w]; rw [c6b0]) | skip)
   by_cases c7 : a1_6 = 0
   ·rw [if_pos c7] at H
    have c7b0 : (a1_6 == 0) = true := beq_iff_eq.mpr c7
    have c7b1 : (a1_6 != 0) = false := bne_eq_false_iff_eq.mpr c7
    clear c7
    have H' := Aside0.mk H
    clear H
    have hnb8 := NB187_186.out
    have hnc8 := NB186_187.out
    obtain ⟨hcz9_0, hcz9_1, hcz9_2, hcz9_3, hcz9_4, hcz9_5, hcz9_6⟩ := cells7 BK187.out
    go_wp2
    go_meet
    case rel => exact ⟨_, (true), (by first | rfl | (simp; done) | (simp [*]; done)), H', ⟨by first | omega | exact Nat.le_refl _⟩, ⟨by (with_reducible repeat (first | refine blk_drewN ?_ _ | refine blk_drew ?_ | refine blk_alloc ?_ _)); exact BK186.out⟩, ⟨by (with_reducible repeat (first | refine blk_drewN ?_ _ | refine blk_drew ?_ | refine blk_alloc ?_ _)); exact BK187.out⟩, ⟨by repeat (first | (with_reducible first | exact HB.out | apply below_alloc | apply pw_below_drewN | apply below_drew1 | refine below_set ?_ GE186.out | refine below_set ?_ GE187.out) | exact HB.out)⟩⟩
   ·rw [if_neg c7] at H
    have c7b0 : (a1_6 == 0) = false := beq_eq_false_iff_ne.mpr c7
    have c7b1 : (a1_6 != 0) = true := bne_iff_ne.mpr c7
    by_cases c10 : a1_0 = 2
    ·rw [if_pos c10] at H
     have c10b0 : (a1_0 == 2) = true := beq_iff_eq.mpr c10
     have c10b1 : (a1_0 != 2) = false := bne_eq_false_iff_eq.mpr c10
     clear c10
     have H' := Aside0.mk H
     clear H
     have hnb11 := NB187_186.out
     have hnc11 := NB186_187.out
     obtain ⟨hcz12_0, hcz12_1, hcz12_2, hcz12_3, hcz12_4, hcz12_5, hcz12_6⟩ := cells7 BK187.out
     go_wp2
     go_meet
     case rel => exact ⟨_, (decide (a1_6 > 0)), (by first | rfl | (simp; done) | (simp [*]; done)), H', ⟨by first | omega | exact Nat.le_refl _⟩, ⟨by (with_reducible repeat (first | refine blk_drewN ?_ _ | refine blk_drew ?_ | refine blk_alloc ?_ _)); exact BK186.out⟩, ⟨by (with_reducible repeat (first | refine blk_drewN ?_ _ | refine blk_drew ?_ | refine blk_alloc ?_ _)); exact BK187.out⟩, ⟨by repeat (first | (with_reducible first | exact HB.out | apply below_alloc | apply pw_below_drewN | apply below_drew1 | refine below_set ?_ GE186.out | refine below_set ?_ GE187.out) | exact HB.out)⟩⟩
    ·rw [if_neg c10] at H
     have c10b0 : (a1_0 == 2) = false := beq_eq_false_iff_ne.mpr c10
     have c10b1 : (a1_0 != 2) = true := bne_iff_ne.mpr c10
     have H' := Aside0.mk H
     clear H
     have hnb13 := NB187_186.out
     have hnc13 := NB186_187.out
     obtain ⟨hcz14_0, hcz14_1, hcz14_2, hcz14_3, hcz14_4, hcz14_5, hcz14_6⟩ := cells7 BK187.out
     go_wp2
     go_meet
     case rel => exact ⟨_, (false), (by first | rfl | (simp; done) | (simp [*]; done)), H', ⟨by first | omega | exact Nat.le_refl _⟩, ⟨by (with_reducible repeat (first | refine blk_drewN ?_ _ | refine blk_drew ?_ | refine blk_alloc ?_ _)); exact BK186.out⟩, ⟨by (with_reducible repeat (first | refine blk_drewN ?_ _ | refine blk_drew ?_ | refine blk_alloc ?_ _)); exact BK187.out⟩, ⟨by repeat (first | (with_reducible first | exact HB.out | apply below_alloc | apply pw_below_drewN | apply below_drew1 | refine below_set ?_ GE186.out | refine below_set ?_ GE187.out) | exact HB.out)⟩⟩
  ·rw [if_neg c6] at H
   have c6b0 : (a1_0 == 1) = false := beq_eq_false_iff_ne.mpr c6
   have c6b1 : (a1_0 != 1) = true := bne_iff_ne.mpr c6
   (first | rw [c6b0] | (simp only [i64_w, i32_w]; rw [c6b0]) | skip)
   by_cases c15 : a1_0 = 2
   ·rw [if_pos c15] at H
    have c15b0 : (a1_0 == 2) = true := beq_iff_eq.mpr c15
    have c15b1 : (a1_0 != 2) = false := bne_eq_false_iff_eq.mpr c15
    clear c15
    have H' := Aside0.mk H
    clear H
    have hnb16 := NB187_186.out
    have hnc16 := NB186_187.out
    obtain ⟨hcz17_0, hcz17_1, hcz17_2, hcz17_3, hcz17_4, hcz17_5, hcz17_6⟩ := cells7 BK187.out
    go_wp2
    go_meet
    case rel => exact ⟨_, (decide (a1_6 > 0)), (by first | rfl | (simp; done) | (simp [*]; done)), H', ⟨by first | omega | exact Nat.le_refl _⟩, ⟨by (with_reducible repeat (first | refine blk_drewN ?_ _ | refine blk_drew ?_ | refine blk_alloc ?_ _)); exact BK186.out⟩, ⟨by (with_reducible repeat (first | refine blk_drewN ?_ _ | refine blk_drew ?_ | refine blk_alloc ?_ _)); exact BK187.out⟩, ⟨by repeat (first | (with_reducible first | exact HB.out | apply below_alloc | apply pw_below_drewN | apply below_drew1 | refine below_set ?_ GE186.out | refine below_set ?_ GE187.out) | exact HB.out)⟩⟩
   ·rw [if_neg c15] at H
    have c15b0 : (a1_0 == 2) = false := beq_eq_false_iff_ne.mpr c15
    have c15b1 : (a1_0 != 2) = true := bne_iff_ne.mpr c15
    have H' := Aside0.mk H
    clear H
    have hnb18 := NB187_186.out
    have hnc18 := NB186_187.out
    obtain ⟨hcz19_0, hcz19_1, hcz19_2, hcz19_3, hcz19_4, hcz19_5, hcz19_6⟩ := cells7 BK187.out
    go_wp2
    go_meet
    case rel => exact ⟨_, (false), (by first | rfl | (simp; done) | (simp [*]; done)), H', ⟨by first | omega | exact Nat.le_refl _⟩, ⟨by (with_reducible repeat (first | refine blk_drewN ?_ _ | refine blk_drew ?_ | refine blk_alloc ?_ _)); exact BK186.out⟩, ⟨by (with_reducible repeat (first | refine blk_drewN ?_ _ | refine blk_drew ?_ | refine blk_alloc ?_ _)); exact BK187.out⟩, ⟨by repeat (first | (with_reducible first | exact HB.out | apply below_alloc | apply pw_below_drewN | apply below_drew1 | refine below_set ?_ GE186.out | refine below_set ?_ GE187.out) | exact HB.out)⟩⟩
 case rest =>
  clear HC3
  try clear c1
  try clear p2
  try clear c6
  try clear c6b0
  try clear c6b1
  try clear c7
  try clear c7b0
  try clear c7b1
  try clear c8
  try clear c10
  try clear c10b0
  try clear c10b1
  try clear c11
  try clear c13
  try clear c15
  try clear c15b0
  try clear c15b1
  try clear c16
  try clear c18
  obtain ⟨kq, x5_2, rfl, HA, HJ2, BK186, BK187, HB⟩ := hcut
  cases kq with
  | zero => exact absurd HA.out (by simp [swarfref33_Valid.j0])
  | succ kj2 =>
   have H := HA.out
   clear HA
   simp only [swarfref33_Valid.j0] at H
   have HC20 := Aside0.mk H
   clear H
   go_upto_region 2 with (fail)
   go_cut [40] (fun v40 wc => ∃ (kq : Nat) (x40_19 : Bool), v40 = .bool x40_19 ∧ Aside0 (swarfref33_Valid.j1 kq x5_2 x40_19 a0_0 a0_1 a0_2 a1_0 a1_1 a1_2 a1_3 a1_4 a1_5 a1_6 = some r) ∧ Aside0 (kq ≤ kj2) ∧ Aside0 (wc.heap[gb186]? = some (.cells #[.int .i64 a0_0, .int .i64 a0_1, .int .i64 a0_2] 23 (0, 0))) ∧ Aside0 (wc.heap[gb187]? = some (.cells #[.int .i64 a1_0, .int .i64 a1_1, .int .i64 a1_2, .int .i64 a1_3, .int .i64 a1_4, .int .i64 a1_5, .int .i64 a1_6] 27 (0, 0))) ∧ Aside0 (Below w.heap.size w wc))
   case first =>
    have H := HC20.out
    clear HC20
    by_cases c21 : x5_2 = true
    ·subst c21
     have H1 : (swarfref33_Valid.j1 kj2 true false a0_0 a0_1 a0_2 a1_0 a1_1 a1_2 a1_3 a1_4 a1_5 a1_6) = some r := by rw [if_pos rfl] at H; exact H
     clear H
     have H := H1
     clear H1
     have H' := Aside0.mk H
     clear H
     go_wp2
     go_meet
     case rel => exact ⟨_, (false), (by first | rfl | (simp; done) | (simp [*]; done)), H', ⟨by have := HJ2.out; first | omega | exact Nat.le_refl _⟩, ⟨by (with_reducible repeat (first | refine blk_drewN ?_ _ | refine blk_drew ?_ | refine blk_alloc ?_ _)); exact BK186.out⟩, ⟨by (with_reducible repeat (first | refine blk_drewN ?_ _ | refine blk_drew ?_ | refine blk_alloc ?_ _)); exact BK187.out⟩, ⟨by repeat (first | (with_reducible first | exact HB.out | apply below_alloc | apply pw_below_drewN | apply below_drew1 | refine below_set ?_ GE186.out | refine below_set ?_ GE187.out) | exact HB.out)⟩⟩
    ·replace c21 := Bool.eq_false_iff.mpr c21
     subst c21
     have H1 : ((swarfref33_arc.f a1_0 a1_1 a1_2 a1_3 a1_4 a1_5 a1_6).bind fun t188 => (if t188 = true then (swarfref33_Valid.j1 kj2 false (decide (a1_6 ≤ 0)) a0_0 a0_1 a0_2 a1_0 a1_1 a1_2 a1_3 a1_4 a1_5 a1_6) else (swarfref33_Valid.j1 kj2 false true a0_0 a0_1 a0_2 a1_0 a1_1 a1_2 a1_3 a1_4 a1_5 a1_6))) = some r := by rw [if_neg (show ¬ (false = true) by decide)] at H; exact H
     clear H
     have H := H1
     clear H1
     replace H := Option.bind_eq_some_iff.mp H
     obtain ⟨t188, A220, H⟩ := H
     replace H : (if t188 = true then (swarfref33_Valid.j1 kj2 false (decide (a1_6 ≤ 0)) a0_0 a0_1 a0_2 a1_0 a1_1 a1_2 a1_3 a1_4 a1_5 a1_6) else (swarfref33_Valid.j1 kj2 false true a0_0 a0_1 a0_2 a1_0 a1_1 a1_2 a1_3 a1_4 a1_5 a1_6)) = some r := H
     have A22 := Aside0.mk A220
     clear A220
     by_cases c23 : t188 = true
     ·subst c23
      have H1 : (swarfref33_Valid.j1 kj2 false (decide (a1_6 ≤ 0)) a0_0 a0_1 a0_2 a1_0 a1_1 a1_2 a1_3 a1_4 a1_5 a1_6) = some r := by rw [if_pos rfl] at H; exact H
      clear H
      have H := H1
      clear H1
      have H' := Aside0.mk H
      clear H
      have hnb24 := NB187_186.out
      have hnc24 := NB186_187.out
      obtain ⟨hcz25_0, hcz25_1, hcz25_2, hcz25_3, hcz25_4, hcz25_5, hcz25_6⟩ := cells7 BK187.out
      go_wp2_with (first | (go_at_call 31; (with_reducible refine (swarfref33_arc.calls a1_0 a1_1 a1_2 a1_3 a1_4 a1_5 a1_6 true _ A22.out).mono ?_); rintro e w26 ⟨rfl, hb⟩; have n0_ := Aside0.mk (blk_below (by exact BK186.out) hb); have n1_ := Aside0.mk (blk_below (by exact BK187.out) hb); have n2_ := Aside0.mk (below_step (by first | exact HB.out | exact pw_below_drewN HB.out _) hb); clear BK186; clear BK187; clear HB; have BK186 := n0_; have BK187 := n1_; have HB := n2_; clear n0_ n1_ n2_; (try clear hb); (try clear hb2); (try clear hk); (try clear hi); obtain ⟨hcz27_0, hcz27_1, hcz27_2, hcz27_3, hcz27_4, hcz27_5, hcz27_6⟩ := cells7 BK187.out))
      go_meet
      case rel => exact ⟨_, (decide (a1_6 ≤ 0)), (by first | rfl | (simp; done) | (simp [*]; done)), H', ⟨by have := HJ2.out; first | omega | exact Nat.le_refl _⟩, ⟨by (with_reducible repeat (first | refine blk_drewN ?_ _ | refine blk_drew ?_ | refine blk_alloc ?_ _)); exact BK186.out⟩, ⟨by (with_reducible repeat (first | refine blk_drewN ?_ _ | refine blk_drew ?_ | refine blk_alloc ?_ _)); exact BK187.out⟩, ⟨by repeat (first | (with_reducible first | exact HB.out | apply below_alloc | apply pw_below_drewN | apply below_drew1 | refine below_set ?_ GE186.out | refine below_set ?_ GE187.out) | exact HB.out)⟩⟩
     ·replace c23 := Bool.eq_false_iff.mpr c23
      subst c23
      have H1 : (swarfref33_Valid.j1 kj2 false true a0_0 a0_1 a0_2 a1_0 a1_1 a1_2 a1_3 a1_4 a1_5 a1_6) = some r := by rw [if_neg (show ¬ (false = true) by decide)] at H; exact H
      clear H
      have H := H1
      clear H1
      have H' := Aside0.mk H
      clear H
      have hnb28 := NB187_186.out
      have hnc28 := NB186_187.out
      obtain ⟨hcz29_0, hcz29_1, hcz29_2, hcz29_3, hcz29_4, hcz29_5, hcz29_6⟩ := cells7 BK187.out
      go_wp2_with (first | (go_at_call 31; (with_reducible refine (swarfref33_arc.calls a1_0 a1_1 a1_2 a1_3 a1_4 a1_5 a1_6 false _ A22.out).mono ?_); rintro e w30 ⟨rfl, hb⟩; have n0_ := Aside0.mk (blk_below (by exact BK186.out) hb); have n1_ := Aside0.mk (blk_below (by exact BK187.out) hb); have n2_ := Aside0.mk (below_step (by first | exact HB.out | exact pw_below_drewN HB.out _) hb); clear BK186; clear BK187; clear HB; have BK186 := n0_; have BK187 := n1_; have HB := n2_; clear n0_ n1_ n2_; (try clear hb); (try clear hb2); (try clear hk); (try clear hi)))
      go_meet
      case rel => exact ⟨_, (true), (by first | rfl | (simp; done) | (simp [*]; done)), H', ⟨by have := HJ2.out; first | omega | exact Nat.le_refl _⟩, ⟨by (with_reducible repeat (first | refine blk_drewN ?_ _ | refine blk_drew ?_ | refine blk_alloc ?_ _)); exact BK186.out⟩, ⟨by (with_reducible repeat (first | refine blk_drewN ?_ _ | refine blk_drew ?_ | refine blk_alloc ?_ _)); exact BK187.out⟩, ⟨by repeat (first | (with_reducible first | exact HB.out | apply below_alloc | apply pw_below_drewN | apply below_drew1 | refine below_set ?_ GE186.out | refine below_set ?_ GE187.out) | exact HB.out)⟩⟩
   case rest =>
    clear HC20
    try clear c1
    try clear c2
    try clear p2
    try clear c6
    try clear c6b0
    try clear c6b1
    try clear c7
    try clear c7b0
    try clear c7b1
    try clear c8
    try clear c10
    try clear c10b0
    try clear c10b1
    try clear c11
    try clear c13
    try clear c15
    try clear c15b0
    try clear c15b1
    try clear c16
    try clear c18
    try clear c21
    try clear c23
    try clear c24
    try clear c28
    try clear p2
    obtain ⟨kq, x40_19, rfl, HA, HJ19, BK186, BK187, HB⟩ := hcut
    cases kq with
    | zero => exact absurd HA.out (by simp [swarfref33_Valid.j1])
    | succ kj19 =>
     have H := HA.out
     clear HA
     simp only [swarfref33_Valid.j1] at H
     by_cases c31 : x40_19 = true
     ·subst c31
      have H1 : (some 1) = some r := by rw [if_pos rfl] at H; exact H
      clear H
      have H := H1
      clear H1
      obtain rfl := Option.some.inj H
      go_wp2
      go_ret
      exact ⟨by first | rfl | (simp [errW_none, errW_some] <;> rfl) | (simp [*, errW_none, errW_some] <;> rfl), by repeat (first | (with_reducible first | exact HB.out | apply below_alloc | apply pw_below_drewN | apply below_drew1 | refine below_set ?_ GE186.out | refine below_set ?_ GE187.out) | exact HB.out)⟩
     ·replace c31 := Bool.eq_false_iff.mpr c31
      subst c31
      have H1 : ((swarfref33_far.f a0_0).bind fun t189 => (if t189 = true then (swarfref33_Valid.j2 kj19 x5_2 true a0_0 a0_1 a0_2 a1_0 a1_1 a1_2 a1_3 a1_4 a1_5 a1_6) else ((swarfref33_far.f a0_1).bind fun t190 => (if t190 = true then (swarfref33_Valid.j2 kj19 x5_2 true a0_0 a0_1 a0_2 a1_0 a1_1 a1_2 a1_3 a1_4 a1_5 a1_6) else ((swarfref33_far.f a0_2).bind fun t191 => (if t191 = true then (swarfref33_Valid.j2 kj19 x5_2 true a0_0 a0_1 a0_2 a1_0 a1_1 a1_2 a1_3 a1_4 a1_5 a1_6) else ((swarfref33_far.f a1_1).bind fun t192 => (if t192 = true then (swarfref33_Valid.j2 kj19 x5_2 true a0_0 a0_1 a0_2 a1_0 a1_1 a1_2 a1_3 a1_4 a1_5 a1_6) else ((swarfref33_far.f a1_2).bind fun t193 => (if t193 = true then (swarfref33_Valid.j2 kj19 x5_2 true a0_0 a0_1 a0_2 a1_0 a1_1 a1_2 a1_3 a1_4 a1_5 a1_6) else ((swarfref33_far.f a1_3).bind fun t194 => (swarfref33_Valid.j2 kj19 x5_2 t194 a0_0 a0_1 a0_2 a1_0 a1_1 a1_2 a1_3 a1_4 a1_5 a1_6)))))))))))) = some r := by rw [if_neg (show ¬ (false = true) by decide)] at H; exact H
      clear H
      have H := H1
      clear H1
      have HC32 := Aside0.mk H
      clear H
      go_upto_region 4 with (fail)
      go_cut [6] (fun v6 wc => ∃ (kq : Nat) (x6_31 : Bool), v6 = .bool x6_31 ∧ Aside0 (swarfref33_Valid.j2 kq x5_2 x6_31 a0_0 a0_1 a0_2 a1_0 a1_1 a1_2 a1_3 a1_4 a1_5 a1_6 = some r) ∧ Aside0 (kq ≤ kj19) ∧ Aside0 (wc.heap[gb186]? = some (.cells #[.int .i64 a0_0, .int .i64 a0_1, .int .i64 a0_2] 23 (0, 0))) ∧ Aside0 (wc.heap[gb187]? = some (.cells #[.int .i64 a1_0, .int .i64 a1_1, .int .i64 a1_2, .int .i64 a1_3, .int .i64 a1_4, .int .i64 a1_5, .int .i64 a1_6] 27 (0, 0))) ∧ Aside0 (Below w.heap.size w wc))
      case first =>
       have H := HC32.out
       clear HC32
       replace H := Option.bind_eq_some_iff.mp H
       obtain ⟨t189, A330, H⟩ := H
       replace H : (if t189 = true then (swarfref33_Valid.j2 kj19 x5_2 true a0_0 a0_1 a0_2 a1_0 a1_1 a1_2 a1_3 a1_4 a1_5 a1_6) else ((swarfref33_far.f a0_1).bind fun t190 => (if t190 = true then (swarfref33_Valid.j2 kj19 x5_2 true a0_0 a0_1 a0_2 a1_0 a1_1 a1_2 a1_3 a1_4 a1_5 a1_6) else ((swarfref33_far.f a0_2).bind fun t191 => (if t191 = true then (swarfref33_Valid.j2 kj19 x5_2 true a0_0 a0_1 a0_2 a1_0 a1_1 a1_2 a1_3 a1_4 a1_5 a1_6) else ((swarfref33_far.f a1_1).bind fun t192 => (if t192 = true then (swarfref33_Valid.j2 kj19 x5_2 true a0_0 a0_1 a0_2 a1_0 a1_1 a1_2 a1_3 a1_4 a1_5 a1_6) else ((swarfref33_far.f a1_2).bind fun t193 => (if t193 = true then (swarfref33_Valid.j2 kj19 x5_2 true a0_0 a0_1 a0_2 a1_0 a1_1 a1_2 a1_3 a1_4 a1_5 a1_6) else ((swarfref33_far.f a1_3).bind fun t194 => (swarfref33_Valid.j2 kj19 x5_2 t194 a0_0 a0_1 a0_2 a1_0 a1_1 a1_2 a1_3 a1_4 a1_5 a1_6))))))))))) = some r := H
       have A33 := Aside0.mk A330
       clear A330
       by_cases c34 : t189 = true
       ·subst c34
        have H1 : (swarfref33_Valid.j2 kj19 x5_2 true a0_0 a0_1 a0_2 a1_0 a1_1 a1_2 a1_3 a1_4 a1_5 a1_6) = some r := by rw [if_pos rfl] at H; exact H
        clear H
        have H := H1
        clear H1
        have H' := Aside0.mk H
        clear H
        have hnb35 := NB186_187.out
        have hnc35 := NB187_186.out
        obtain ⟨hcz36_0, hcz36_1, hcz36_2⟩ := cells3 BK186.out
        go_wp2_with (first | ((with_reducible refine gate_callee (f := 35) rfl ?_); refine goesL_ (some 43) rfl rfl Try.func35 (by kernel_rfl) rfl #[.int .i64 a0_0] rfl (by (try simp only [List.map_toArray, List.map_cons, List.map_nil]); first | done | rfl | (simp only [List.length_drop, List.length_take]; rfl)) ?_; (with_reducible refine (swarfref33_far.calls a0_0 true _ A33.out).mono ?_); rintro e w' ⟨rfl, ⟨nd, rfl⟩⟩; refine ⟨_, rfl, ?_⟩))
        go_meet
        case rel => exact ⟨_, (true), (by first | rfl | (simp; done) | (simp [*]; done)), H', ⟨by have := HJ2.out; have := HJ19.out; first | omega | exact Nat.le_refl _⟩, ⟨by (with_reducible repeat (first | refine blk_drewN ?_ _ | refine blk_drew ?_ | refine blk_alloc ?_ _)); exact BK186.out⟩, ⟨by (with_reducible repeat (first | refine blk_drewN ?_ _ | refine blk_drew ?_ | refine blk_alloc ?_ _)); exact BK187.out⟩, ⟨by repeat (first | (with_reducible first | exact HB.out | apply below_alloc | apply pw_below_drewN | apply below_drew1 | refine below_set ?_ GE186.out | refine below_set ?_ GE187.out) | exact HB.out)⟩⟩
       ·replace c34 := Bool.eq_false_iff.mpr c34
        subst c34
        have H1 : ((swarfref33_far.f a0_1).bind fun t190 => (if t190 = true then (swarfref33_Valid.j2 kj19 x5_2 true a0_0 a0_1 a0_2 a1_0 a1_1 a1_2 a1_3 a1_4 a1_5 a1_6) else ((swarfref33_far.f a0_2).bind fun t191 => (if t191 = true then (swarfref33_Valid.j2 kj19 x5_2 true a0_0 a0_1 a0_2 a1_0 a1_1 a1_2 a1_3 a1_4 a1_5 a1_6) else ((swarfref33_far.f a1_1).bind fun t192 => (if t192 = true then (swarfref33_Valid.j2 kj19 x5_2 true a0_0 a0_1 a0_2 a1_0 a1_1 a1_2 a1_3 a1_4 a1_5 a1_6) else ((swarfref33_far.f a1_2).bind fun t193 => (if t193 = true then (swarfref33_Valid.j2 kj19 x5_2 true a0_0 a0_1 a0_2 a1_0 a1_1 a1_2 a1_3 a1_4 a1_5 a1_6) else ((swarfref33_far.f a1_3).bind fun t194 => (swarfref33_Valid.j2 kj19 x5_2 t194 a0_0 a0_1 a0_2 a1_0 a1_1 a1_2 a1_3 a1_4 a1_5 a1_6)))))))))) = some r := by rw [if_neg (show ¬ (false = true) by decide)] at H; exact H
        clear H
        have H := H1
        clear H1
        replace H := Option.bind_eq_some_iff.mp H
        obtain ⟨t190, A370, H⟩ := H
        replace H : (if t190 = true then (swarfref33_Valid.j2 kj19 x5_2 true a0_0 a0_1 a0_2 a1_0 a1_1 a1_2 a1_3 a1_4 a1_5 a1_6) else ((swarfref33_far.f a0_2).bind fun t191 => (if t191 = true then (swarfref33_Valid.j2 kj19 x5_2 true a0_0 a0_1 a0_2 a1_0 a1_1 a1_2 a1_3 a1_4 a1_5 a1_6) else ((swarfref33_far.f a1_1).bind fun t192 => (if t192 = true then (swarfref33_Valid.j2 kj19 x5_2 true a0_0 a0_1 a0_2 a1_0 a1_1 a1_2 a1_3 a1_4 a1_5 a1_6) else ((swarfref33_far.f a1_2).bind fun t193 => (if t193 = true then (swarfref33_Valid.j2 kj19 x5_2 true a0_0 a0_1 a0_2 a1_0 a1_1 a1_2 a1_3 a1_4 a1_5 a1_6) else ((swarfref33_far.f a1_3).bind fun t194 => (swarfref33_Valid.j2 kj19 x5_2 t194 a0_0 a0_1 a0_2 a1_0 a1_1 a1_2 a1_3 a1_4 a1_5 a1_6))))))))) = some r := H
        have A37 := Aside0.mk A370
        clear A370
        by_cases c38 : t190 = true
        ·subst c38
         have H1 : (swarfref33_Valid.j2 kj19 x5_2 true a0_0 a0_1 a0_2 a1_0 a1_1 a1_2 a1_3 a1_4 a1_5 a1_6) = some r := by rw [if_pos rfl] at H; exact H
         clear H
         have H := H1
         clear H1
         have H' := Aside0.mk H
         clear H
         have hnb39 := NB186_187.out
         have hnc39 := NB187_186.out
         obtain ⟨hcz40_0, hcz40_1, hcz40_2⟩ := cells3 BK186.out
         go_wp2_with (first | ((with_reducible refine gate_callee (f := 35) rfl ?_); refine goesL_ (some 43) rfl rfl Try.func35 (by kernel_rfl) rfl #[.int .i64 a0_0] rfl (by (try simp only [List.map_toArray, List.map_cons, List.map_nil]); first | done | rfl | (simp only [List.length_drop, List.length_take]; rfl)) ?_; (with_reducible refine (swarfref33_far.calls a0_0 false _ A33.out).mono ?_); rintro e w' ⟨rfl, ⟨nd, rfl⟩⟩; refine ⟨_, rfl, ?_⟩) | (go_at_call 35; (with_reducible refine (swarfref33_far.calls a0_1 true _ A37.out).mono ?_); rintro e w' ⟨rfl, ⟨nd, rfl⟩⟩))
         go_meet
         case rel => exact ⟨_, (true), (by first | rfl | (simp; done) | (simp [*]; done)), H', ⟨by have := HJ2.out; have := HJ19.out; first | omega | exact Nat.le_refl _⟩, ⟨by (with_reducible repeat (first | refine blk_drewN ?_ _ | refine blk_drew ?_ | refine blk_alloc ?_ _)); exact BK186.out⟩, ⟨by (with_reducible repeat (first | refine blk_drewN ?_ _ | refine blk_drew ?_ | refine blk_alloc ?_ _)); exact BK187.out⟩, ⟨by repeat (first | (with_reducible first | exact HB.out | apply below_alloc | apply pw_below_drewN | apply below_drew1 | refine below_set ?_ GE186.out | refine below_set ?_ GE187.out) | exact HB.out)⟩⟩
        ·replace c38 := Bool.eq_false_iff.mpr c38
         subst c38
         have H1 : ((swarfref33_far.f a0_2).bind fun t191 => (if t191 = true then (swarfref33_Valid.j2 kj19 x5_2 true a0_0 a0_1 a0_2 a1_0 a1_1 a1_2 a1_3 a1_4 a1_5 a1_6) else ((swarfref33_far.f a1_1).bind fun t192 => (if t192 = true then (swarfref33_Valid.j2 kj19 x5_2 true a0_0 a0_1 a0_2 a1_0 a1_1 a1_2 a1_3 a1_4 a1_5 a1_6) else ((swarfref33_far.f a1_2).bind fun t193 => (if t193 = true then (swarfref33_Valid.j2 kj19 x5_2 true a0_0 a0_1 a0_2 a1_0 a1_1 a1_2 a1_3 a1_4 a1_5 a1_6) else ((swarfref33_far.f a1_3).bind fun t194 => (swarfref33_Valid.j2 kj19 x5_2 t194 a0_0 a0_1 a0_2 a1_0 a1_1 a1_2 a1_3 a1_4 a1_5 a1_6)))))))) = some r := by rw [if_neg (show ¬ (false = true) by decide)] at H; exact H
         clear H
         have H := H1
         clear H1
         replace H := Option.bind_eq_some_iff.mp H
         obtain ⟨t191, A410, H⟩ := H
         replace H : (if t191 = true then (swarfref33_Valid.j2 kj19 x5_2 true a0_0 a0_1 a0_2 a1_0 a1_1 a1_2 a1_3 a1_4 a1_5 a1_6) else ((swarfref33_far.f a1_1).bind fun t192 => (if t192 = true then (swarfref33_Valid.j2 kj19 x5_2 true a0_0 a0_1 a0_2 a1_0 a1_1 a1_2 a1_3 a1_4 a1_5 a1_6) else ((swarfref33_far.f a1_2).bind fun t193 => (if t193 = true then (swarfref33_Valid.j2 kj19 x5_2 true a0_0 a0_1 a0_2 a1_0 a1_1 a1_2 a1_3 a1_4 a1_5 a1_6) else ((swarfref33_far.f a1_3).bind fun t194 => (swarfref33_Valid.j2 kj19 x5_2 t194 a0_0 a0_1 a0_2 a1_0 a1_1 a1_2 a1_3 a1_4 a1_5 a1_6))))))) = some r := H
         have A41 := Aside0.mk A410
         clear A410
         by_cases c42 : t191 = true
         ·subst c42
          have H1 : (swarfref33_Valid.j2 kj19 x5_2 true a0_0 a0_1 a0_2 a1_0 a1_1 a1_2 a1_3 a1_4 a1_5 a1_6) = some r := by rw [if_pos rfl] at H; exact H
          clear H
          have H := H1
          clear H1
          have H' := Aside0.mk H
          clear H
          have hnb43 := NB186_187.out
          have hnc43 := NB187_186.out
          obtain ⟨hcz44_0, hcz44_1, hcz44_2⟩ := cells3 BK186.out
          go_wp2_with (first | ((with_reducible refine gate_callee (f := 35) rfl ?_); refine goesL_ (some 43) rfl rfl Try.func35 (by kernel_rfl) rfl #[.int .i64 a0_0] rfl (by (try simp only [List.map_toArray, List.map_cons, List.map_nil]); first | done | rfl | (simp only [List.length_drop, List.length_take]; rfl)) ?_; (with_reducible refine (swarfref33_far.calls a0_0 false _ A33.out).mono ?_); rintro e w' ⟨rfl, ⟨nd, rfl⟩⟩; refine ⟨_, rfl, ?_⟩) | (go_at_call 35; (with_reducible refine (swarfref33_far.calls a0_1 false _ A37.out).mono ?_); rintro e w' ⟨rfl, ⟨nd, rfl⟩⟩) | (go_at_call 35; (with_reducible refine (swarfref33_far.calls a0_2 true _ A41.out).mono ?_); rintro e w' ⟨rfl, ⟨nd, rfl⟩⟩))
          go_meet
          case rel => exact ⟨_, (true), (by first | rfl | (simp; done) | (simp [*]; done)), H', ⟨by have := HJ2.out; have := HJ19.out; first | omega | exact Nat.le_refl _⟩, ⟨by (with_reducible repeat (first | refine blk_drewN ?_ _ | refine blk_drew ?_ | refine blk_alloc ?_ _)); exact BK186.out⟩, ⟨by (with_reducible repeat (first | refine blk_drewN ?_ _ | refine blk_drew ?_ | refine blk_alloc ?_ _)); exact BK187.out⟩, ⟨by repeat (first | (with_reducible first | exact HB.out | apply below_alloc | apply pw_below_drewN | apply below_drew1 | refine below_set ?_ GE186.out | refine below_set ?_ GE187.out) | exact HB.out)⟩⟩
         ·replace c42 := Bool.eq_false_iff.mpr c42
          subst c42
          have H1 : ((swarfref33_far.f a1_1).bind fun t192 => (if t192 = true then (swarfref33_Valid.j2 kj19 x5_2 true a0_0 a0_1 a0_2 a1_0 a1_1 a1_2 a1_3 a1_4 a1_5 a1_6) else ((swarfref33_far.f a1_2).bind fun t193 => (if t193 = true then (swarfref33_Valid.j2 kj19 x5_2 true a0_0 a0_1 a0_2 a1_0 a1_1 a1_2 a1_3 a1_4 a1_5 a1_6) else ((swarfref33_far.f a1_3).bind fun t194 => (swarfref33_Valid.j2 kj19 x5_2 t194 a0_0 a0_1 a0_2 a1_0 a1_1 a1_2 a1_3 a1_4 a1_5 a1_6)))))) = some r := by rw [if_neg (show ¬ (false = true) by decide)] at H; exact H
          clear H
          have H := H1
          clear H1
          replace H := Option.bind_eq_some_iff.mp H
          obtain ⟨t192, A450, H⟩ := H
          replace H : (if t192 = true then (swarfref33_Valid.j2 kj19 x5_2 true a0_0 a0_1 a0_2 a1_0 a1_1 a1_2 a1_3 a1_4 a1_5 a1_6) else ((swarfref33_far.f a1_2).bind fun t193 => (if t193 = true then (swarfref33_Valid.j2 kj19 x5_2 true a0_0 a0_1 a0_2 a1_0 a1_1 a1_2 a1_3 a1_4 a1_5 a1_6) else ((swarfref33_far.f a1_3).bind fun t194 => (swarfref33_Valid.j2 kj19 x5_2 t194 a0_0 a0_1 a0_2 a1_0 a1_1 a1_2 a1_3 a1_4 a1_5 a1_6))))) = some r := H
          have A45 := Aside0.mk A450
          clear A450
          by_cases c46 : t192 = true
          ·subst c46
           have H1 : (swarfref33_Valid.j2 kj19 x5_2 true a0_0 a0_1 a0_2 a1_0 a1_1 a1_2 a1_3 a1_4 a1_5 a1_6) = some r := by rw [if_pos rfl] at H; exact H
           clear H
           have H := H1
           clear H1
           have H' := Aside0.mk H
           clear H
           have hnb47 := NB186_187.out
           have hnc47 := NB187_186.out
           obtain ⟨hcz48_0, hcz48_1, hcz48_2⟩ := cells3 BK186.out
           go_wp2_with (first | ((with_reducible refine gate_callee (f := 35) rfl ?_); refine goesL_ (some 43) rfl rfl Try.func35 (by kernel_rfl) rfl #[.int .i64 a0_0] rfl (by (try simp only [List.map_toArray, List.map_cons, List.map_nil]); first | done | rfl | (simp only [List.length_drop, List.length_take]; rfl)) ?_; (with_reducible refine (swarfref33_far.calls a0_0 false _ A33.out).mono ?_); rintro e w' ⟨rfl, ⟨nd, rfl⟩⟩; refine ⟨_, rfl, ?_⟩) | (go_at_call 35; (with_reducible refine (swarfref33_far.calls a0_1 false _ A37.out).mono ?_); rintro e w' ⟨rfl, ⟨nd, rfl⟩⟩) | (go_at_call 35; (with_reducible refine (swarfref33_far.calls a0_2 false _ A41.out).mono ?_); rintro e w' ⟨rfl, ⟨nd, rfl⟩⟩; obtain ⟨hcz49_0, hcz49_1, hcz49_2, hcz49_3, hcz49_4, hcz49_5, hcz49_6⟩ := cells7 BK187.out) | (go_at_call 35; (with_reducible refine (swarfref33_far.calls a1_1 true _ A45.out).mono ?_); rintro e w' ⟨rfl, ⟨nd, rfl⟩⟩))
           go_meet
           case rel => exact ⟨_, (true), (by first | rfl | (simp; done) | (simp [*]; done)), H', ⟨by have := HJ2.out; have := HJ19.out; first | omega | exact Nat.le_refl _⟩, ⟨by (with_reducible repeat (first | refine blk_drewN ?_ _ | refine blk_drew ?_ | refine blk_alloc ?_ _)); exact BK186.out⟩, ⟨by (with_reducible repeat (first | refine blk_drewN ?_ _ | refine blk_drew ?_ | refine blk_alloc ?_ _)); exact BK187.out⟩, ⟨by repeat (first | (with_reducible first | exact HB.out | apply below_alloc | apply pw_below_drewN | apply below_drew1 | refine below_set ?_ GE186.out | refine below_set ?_ GE187.out) | exact HB.out)⟩⟩
          ·replace c46 := Bool.eq_false_iff.mpr c46
           subst c46
           have H1 : ((swarfref33_far.f a1_2).bind fun t193 => (if t193 = true then (swarfref33_Valid.j2 kj19 x5_2 true a0_0 a0_1 a0_2 a1_0 a1_1 a1_2 a1_3 a1_4 a1_5 a1_6) else ((swarfref33_far.f a1_3).bind fun t194 => (swarfref33_Valid.j2 kj19 x5_2 t194 a0_0 a0_1 a0_2 a1_0 a1_1 a1_2 a1_3 a1_4 a1_5 a1_6)))) = some r := by rw [if_neg (show ¬ (false = true) by decide)] at H; exact H
           clear H
           have H := H1
           clear H1
           replace H := Option.bind_eq_some_iff.mp H
           obtain ⟨t193, A500, H⟩ := H
           replace H : (if t193 = true then (swarfref33_Valid.j2 kj19 x5_2 true a0_0 a0_1 a0_2 a1_0 a1_1 a1_2 a1_3 a1_4 a1_5 a1_6) else ((swarfref33_far.f a1_3).bind fun t194 => (swarfref33_Valid.j2 kj19 x5_2 t194 a0_0 a0_1 a0_2 a1_0 a1_1 a1_2 a1_3 a1_4 a1_5 a1_6))) = some r := H
           have A50 := Aside0.mk A500
           clear A500
           by_cases c51 : t193 = true
           ·subst c51
            have H1 : (swarfref33_Valid.j2 kj19 x5_2 true a0_0 a0_1 a0_2 a1_0 a1_1 a1_2 a1_3 a1_4 a1_5 a1_6) = some r := by rw [if_pos rfl] at H; exact H
            clear H
            have H := H1
            clear H1
            have H' := Aside0.mk H
            clear H
            have hnb52 := NB186_187.out
            have hnc52 := NB187_186.out
            obtain ⟨hcz53_0, hcz53_1, hcz53_2⟩ := cells3 BK186.out
            go_wp2_with (first | ((with_reducible refine gate_callee (f := 35) rfl ?_); refine goesL_ (some 43) rfl rfl Try.func35 (by kernel_rfl) rfl #[.int .i64 a0_0] rfl (by (try simp only [List.map_toArray, List.map_cons, List.map_nil]); first | done | rfl | (simp only [List.length_drop, List.length_take]; rfl)) ?_; (with_reducible refine (swarfref33_far.calls a0_0 false _ A33.out).mono ?_); rintro e w' ⟨rfl, ⟨nd, rfl⟩⟩; refine ⟨_, rfl, ?_⟩) | (go_at_call 35; (with_reducible refine (swarfref33_far.calls a0_1 false _ A37.out).mono ?_); rintro e w' ⟨rfl, ⟨nd, rfl⟩⟩) | (go_at_call 35; (with_reducible refine (swarfref33_far.calls a0_2 false _ A41.out).mono ?_); rintro e w' ⟨rfl, ⟨nd, rfl⟩⟩; obtain ⟨hcz54_0, hcz54_1, hcz54_2, hcz54_3, hcz54_4, hcz54_5, hcz54_6⟩ := cells7 BK187.out) | (go_at_call 35; (with_reducible refine (swarfref33_far.calls a1_1 false _ A45.out).mono ?_); rintro e w' ⟨rfl, ⟨nd, rfl⟩⟩) | (go_at_call 35; (with_reducible refine (swarfref33_far.calls a1_2 true _ A50.out).mono ?_); rintro e w' ⟨rfl, ⟨nd, rfl⟩⟩))
            go_meet
            case rel => exact ⟨_, (true), (by first | rfl | (simp; done) | (simp [*]; done)), H', ⟨by have := HJ2.out; have := HJ19.out; first | omega | exact Nat.le_refl _⟩, ⟨by (with_reducible repeat (first | refine blk_drewN ?_ _ | refine blk_drew ?_ | refine blk_alloc ?_ _)); exact BK186.out⟩, ⟨by (with_reducible repeat (first | refine blk_drewN ?_ _ | refine blk_drew ?_ | refine blk_alloc ?_ _)); exact BK187.out⟩, ⟨by repeat (first | (with_reducible first | exact HB.out | apply below_alloc | apply pw_below_drewN | apply below_drew1 | refine below_set ?_ GE186.out | refine below_set ?_ GE187.out) | exact HB.out)⟩⟩
           ·replace c51 := Bool.eq_false_iff.mpr c51
            subst c51
            have H1 : ((swarfref33_far.f a1_3).bind fun t194 => (swarfref33_Valid.j2 kj19 x5_2 t194 a0_0 a0_1 a0_2 a1_0 a1_1 a1_2 a1_3 a1_4 a1_5 a1_6)) = some r := by rw [if_neg (show ¬ (false = true) by decide)] at H; exact H
            clear H
            have H := H1
            clear H1
            replace H := Option.bind_eq_some_iff.mp H
            obtain ⟨t194, A550, H⟩ := H
            replace H : (swarfref33_Valid.j2 kj19 x5_2 t194 a0_0 a0_1 a0_2 a1_0 a1_1 a1_2 a1_3 a1_4 a1_5 a1_6) = some r := H
            have A55 := Aside0.mk A550
            clear A550
            have H' := Aside0.mk H
            clear H
            have hnb56 := NB186_187.out
            have hnc56 := NB187_186.out
            obtain ⟨hcz57_0, hcz57_1, hcz57_2⟩ := cells3 BK186.out
            go_wp2_with (first | ((with_reducible refine gate_callee (f := 35) rfl ?_); refine goesL_ (some 43) rfl rfl Try.func35 (by kernel_rfl) rfl #[.int .i64 a0_0] rfl (by (try simp only [List.map_toArray, List.map_cons, List.map_nil]); first | done | rfl | (simp only [List.length_drop, List.length_take]; rfl)) ?_; (with_reducible refine (swarfref33_far.calls a0_0 false _ A33.out).mono ?_); rintro e w' ⟨rfl, ⟨nd, rfl⟩⟩; refine ⟨_, rfl, ?_⟩) | (go_at_call 35; (with_reducible refine (swarfref33_far.calls a0_1 false _ A37.out).mono ?_); rintro e w' ⟨rfl, ⟨nd, rfl⟩⟩) | (go_at_call 35; (with_reducible refine (swarfref33_far.calls a0_2 false _ A41.out).mono ?_); rintro e w' ⟨rfl, ⟨nd, rfl⟩⟩; obtain ⟨hcz58_0, hcz58_1, hcz58_2, hcz58_3, hcz58_4, hcz58_5, hcz58_6⟩ := cells7 BK187.out) | (go_at_call 35; (with_reducible refine (swarfref33_far.calls a1_1 false _ A45.out).mono ?_); rintro e w' ⟨rfl, ⟨nd, rfl⟩⟩) | (go_at_call 35; (with_reducible refine (swarfref33_far.calls a1_2 false _ A50.out).mono ?_); rintro e w' ⟨rfl, ⟨nd, rfl⟩⟩) | (go_at_call 35; (with_reducible refine (swarfref33_far.calls a1_3 t194 _ A55.out).mono ?_); rintro e w' ⟨rfl, ⟨nd, rfl⟩⟩))
            go_meet
            case rel => exact ⟨_, (t194), (by first | rfl | (simp; done) | (simp [*]; done)), H', ⟨by have := HJ2.out; have := HJ19.out; first | omega | exact Nat.le_refl _⟩, ⟨by (with_reducible repeat (first | refine blk_drewN ?_ _ | refine blk_drew ?_ | refine blk_alloc ?_ _)); exact BK186.out⟩, ⟨by (with_reducible repeat (first | refine blk_drewN ?_ _ | refine blk_drew ?_ | refine blk_alloc ?_ _)); exact BK187.out⟩, ⟨by repeat (first | (with_reducible first | exact HB.out | apply below_alloc | apply pw_below_drewN | apply below_drew1 | refine below_set ?_ GE186.out | refine below_set ?_ GE187.out) | exact HB.out)⟩⟩
      case rest =>
       clear HC32
       try clear c1
       try clear c2
       try clear p2
       try clear c3
       try clear c4
       try clear c5
       try clear c6
       try clear c6b0
       try clear c6b1
       try clear c7
       try clear c7b0
       try clear c7b1
       try clear c8
       try clear c10
       try clear c10b0
       try clear c10b1
       try clear c11
       try clear c13
       try clear c15
       try clear c15b0
       try clear c15b1
       try clear c16
       try clear c18
       try clear c21
       try clear c23
       try clear c24
       try clear c28
       try clear c31
       try clear c34
       try clear c35
       try clear c38
       try clear c39
       try clear c42
       try clear c43
       try clear c46
       try clear c47
       try clear c51
       try clear c52
       try clear c56
       try clear p2
       obtain ⟨kq, x6_31, rfl, HA, HJ31, BK186, BK187, HB⟩ := hcut
       cases kq with
       | zero => exact absurd HA.out (by simp [swarfref33_Valid.j2])
       | succ kj31 =>
        have H := HA.out
        clear HA
        simp only [swarfref33_Valid.j2] at H
        by_cases c59 : x5_2 = true
        ·subst c59
         have H1 : (if x6_31 = true then (some 11) else (some 0)) = some r := by rw [if_pos rfl] at H; exact H
         clear H
         have H := H1
         clear H1
         by_cases c60 : x6_31 = true
         ·subst c60
          have H1 : (some 11) = some r := by rw [if_pos rfl] at H; exact H
          clear H
          have H := H1
          clear H1
          obtain rfl := Option.some.inj H
          go_wp2
          go_ret
          exact ⟨by first | rfl | (simp [errW_none, errW_some] <;> rfl) | (simp [*, errW_none, errW_some] <;> rfl), by repeat (first | (with_reducible first | exact HB.out | apply below_alloc | apply pw_below_drewN | apply below_drew1 | refine below_set ?_ GE186.out | refine below_set ?_ GE187.out) | exact HB.out)⟩
         ·replace c60 := Bool.eq_false_iff.mpr c60
          subst c60
          have H1 : (some 0) = some r := by rw [if_neg (show ¬ (false = true) by decide)] at H; exact H
          clear H
          have H := H1
          clear H1
          obtain rfl := Option.some.inj H
          go_wp2
          go_ret
          exact ⟨by first | rfl | (simp [errW_none, errW_some] <;> rfl) | (simp [*, errW_none, errW_some] <;> rfl), by repeat (first | (with_reducible first | exact HB.out | apply below_alloc | apply pw_below_drewN | apply below_drew1 | refine below_set ?_ GE186.out | refine below_set ?_ GE187.out) | exact HB.out)⟩
        ·replace c59 := Bool.eq_false_iff.mpr c59
         subst c59
         have H1 : (if x6_31 = true then (swarfref33_Valid.j3 kj31 true a0_0 a0_1 a0_2 a1_0 a1_1 a1_2 a1_3 a1_4 a1_5 a1_6) else ((swarfref33_far.f a1_4).bind fun t195 => (if t195 = true then (swarfref33_Valid.j3 kj31 true a0_0 a0_1 a0_2 a1_0 a1_1 a1_2 a1_3 a1_4 a1_5 a1_6) else ((swarfref33_far.f a1_5).bind fun t196 => (swarfref33_Valid.j3 kj31 t196 a0_0 a0_1 a0_2 a1_0 a1_1 a1_2 a1_3 a1_4 a1_5 a1_6))))) = some r := by rw [if_neg (show ¬ (false = true) by decide)] at H; exact H
         clear H
         have H := H1
         clear H1
         have HC61 := Aside0.mk H
         clear H
         go_upto_region 9 with (fail)
         go_cut [86] (fun v86 wc => ∃ (kq : Nat) (x86_60 : Bool), v86 = .bool x86_60 ∧ Aside0 (swarfref33_Valid.j3 kq x86_60 a0_0 a0_1 a0_2 a1_0 a1_1 a1_2 a1_3 a1_4 a1_5 a1_6 = some r) ∧ Aside0 (kq ≤ kj31) ∧ Aside0 (wc.heap[gb186]? = some (.cells #[.int .i64 a0_0, .int .i64 a0_1, .int .i64 a0_2] 23 (0, 0))) ∧ Aside0 (wc.heap[gb187]? = some (.cells #[.int .i64 a1_0, .int .i64 a1_1, .int .i64 a1_2, .int .i64 a1_3, .int .i64 a1_4, .int .i64 a1_5, .int .i64 a1_6] 27 (0, 0))) ∧ Aside0 (Below w.heap.size w wc))
         case first =>
          have H := HC61.out
          clear HC61
          by_cases c62 : x6_31 = true
          ·subst c62
           have H1 : (swarfref33_Valid.j3 kj31 true a0_0 a0_1 a0_2 a1_0 a1_1 a1_2 a1_3 a1_4 a1_5 a1_6) = some r := by rw [if_pos rfl] at H; exact H
           clear H
           have H := H1
           clear H1
           have H' := Aside0.mk H
           clear H
           go_wp2
           go_meet
           case rel => exact ⟨_, (true), (by first | rfl | (simp; done) | (simp [*]; done)), H', ⟨by have := HJ2.out; have := HJ19.out; have := HJ31.out; first | omega | exact Nat.le_refl _⟩, ⟨by (with_reducible repeat (first | refine blk_drewN ?_ _ | refine blk_drew ?_ | refine blk_alloc ?_ _)); exact BK186.out⟩, ⟨by (with_reducible repeat (first | refine blk_drewN ?_ _ | refine blk_drew ?_ | refine blk_alloc ?_ _)); exact BK187.out⟩, ⟨by repeat (first | (with_reducible first | exact HB.out | apply below_alloc | apply pw_below_drewN | apply below_drew1 | refine below_set ?_ GE186.out | refine below_set ?_ GE187.out) | exact HB.out)⟩⟩
          ·replace c62 := Bool.eq_false_iff.mpr c62
           subst c62
           have H1 : ((swarfref33_far.f a1_4).bind fun t195 => (if t195 = true then (swarfref33_Valid.j3 kj31 true a0_0 a0_1 a0_2 a1_0 a1_1 a1_2 a1_3 a1_4 a1_5 a1_6) else ((swarfref33_far.f a1_5).bind fun t196 => (swarfref33_Valid.j3 kj31 t196 a0_0 a0_1 a0_2 a1_0 a1_1 a1_2 a1_3 a1_4 a1_5 a1_6)))) = some r := by rw [if_neg (show ¬ (false = true) by decide)] at H; exact H
           clear H
           have H := H1
           clear H1
           replace H := Option.bind_eq_some_iff.mp H
           obtain ⟨t195, A630, H⟩ := H
           replace H : (if t195 = true then (swarfref33_Valid.j3 kj31 true a0_0 a0_1 a0_2 a1_0 a1_1 a1_2 a1_3 a1_4 a1_5 a1_6) else ((swarfref33_far.f a1_5).bind fun t196 => (swarfref33_Valid.j3 kj31 t196 a0_0 a0_1 a0_2 a1_0 a1_1 a1_2 a1_3 a1_4 a1_5 a1_6))) = some r := H
           have A63 := Aside0.mk A630
           clear A630
           by_cases c64 : t195 = true
           ·subst c64
            have H1 : (swarfref33_Valid.j3 kj31 true a0_0 a0_1 a0_2 a1_0 a1_1 a1_2 a1_3 a1_4 a1_5 a1_6) = some r := by rw [if_pos rfl] at H; exact H
            clear H
            have H := H1
            clear H1
            have H' := Aside0.mk H
            clear H
            have hnb65 := NB187_186.out
            have hnc65 := NB186_187.out
            obtain ⟨hcz66_0, hcz66_1, hcz66_2, hcz66_3, hcz66_4, hcz66_5, hcz66_6⟩ := cells7 BK187.out
            go_wp2_with (first | (go_at_call 35; (with_reducible refine (swarfref33_far.calls a1_4 true _ A63.out).mono ?_); rintro e w' ⟨rfl, ⟨nd, rfl⟩⟩))
            go_meet
            case rel => exact ⟨_, (true), (by first | rfl | (simp; done) | (simp [*]; done)), H', ⟨by have := HJ2.out; have := HJ19.out; have := HJ31.out; first | omega | exact Nat.le_refl _⟩, ⟨by (with_reducible repeat (first | refine blk_drewN ?_ _ | refine blk_drew ?_ | refine blk_alloc ?_ _)); exact BK186.out⟩, ⟨by (with_reducible repeat (first | refine blk_drewN ?_ _ | refine blk_drew ?_ | refine blk_alloc ?_ _)); exact BK187.out⟩, ⟨by repeat (first | (with_reducible first | exact HB.out | apply below_alloc | apply pw_below_drewN | apply below_drew1 | refine below_set ?_ GE186.out | refine below_set ?_ GE187.out) | exact HB.out)⟩⟩
           ·replace c64 := Bool.eq_false_iff.mpr c64
            subst c64
            have H1 : ((swarfref33_far.f a1_5).bind fun t196 => (swarfref33_Valid.j3 kj31 t196 a0_0 a0_1 a0_2 a1_0 a1_1 a1_2 a1_3 a1_4 a1_5 a1_6)) = some r := by rw [if_neg (show ¬ (false = true) by decide)] at H; exact H
            clear H
            have H := H1
            clear H1
            replace H := Option.bind_eq_some_iff.mp H
            obtain ⟨t196, A670, H⟩ := H
            replace H : (swarfref33_Valid.j3 kj31 t196 a0_0 a0_1 a0_2 a1_0 a1_1 a1_2 a1_3 a1_4 a1_5 a1_6) = some r := H
            have A67 := Aside0.mk A670
            clear A670
            have H' := Aside0.mk H
            clear H
            have hnb68 := NB187_186.out
            have hnc68 := NB186_187.out
            obtain ⟨hcz69_0, hcz69_1, hcz69_2, hcz69_3, hcz69_4, hcz69_5, hcz69_6⟩ := cells7 BK187.out
            go_wp2_with (first | (go_at_call 35; (with_reducible refine (swarfref33_far.calls a1_4 false _ A63.out).mono ?_); rintro e w' ⟨rfl, ⟨nd, rfl⟩⟩) | (go_at_call 35; (with_reducible refine (swarfref33_far.calls a1_5 t196 _ A67.out).mono ?_); rintro e w' ⟨rfl, ⟨nd, rfl⟩⟩))
            go_meet
            case rel => exact ⟨_, (t196), (by first | rfl | (simp; done) | (simp [*]; done)), H', ⟨by have := HJ2.out; have := HJ19.out; have := HJ31.out; first | omega | exact Nat.le_refl _⟩, ⟨by (with_reducible repeat (first | refine blk_drewN ?_ _ | refine blk_drew ?_ | refine blk_alloc ?_ _)); exact BK186.out⟩, ⟨by (with_reducible repeat (first | refine blk_drewN ?_ _ | refine blk_drew ?_ | refine blk_alloc ?_ _)); exact BK187.out⟩, ⟨by repeat (first | (with_reducible first | exact HB.out | apply below_alloc | apply pw_below_drewN | apply below_drew1 | refine below_set ?_ GE186.out | refine below_set ?_ GE187.out) | exact HB.out)⟩⟩
         case rest =>
          clear HC61
          try clear c1
          try clear c2
          try clear p2
          try clear c3
          try clear c4
          try clear c5
          try clear c6
          try clear c6b0
          try clear c6b1
          try clear c7
          try clear c7b0
          try clear c7b1
          try clear c8
          try clear c10
          try clear c10b0
          try clear c10b1
          try clear c11
          try clear c13
          try clear c15
          try clear c15b0
          try clear c15b1
          try clear c16
          try clear c18
          try clear c21
          try clear c23
          try clear c24
          try clear c28
          try clear c31
          try clear c34
          try clear c35
          try clear c38
          try clear c39
          try clear c42
          try clear c43
          try clear c46
          try clear c47
          try clear c51
          try clear c52
          try clear c56
          try clear c59
          try clear c60
          try clear c62
          try clear c64
          try clear c65
          try clear c68
          try clear p2
          obtain ⟨kq, x86_60, rfl, HA, HJ60, BK186, BK187, HB⟩ := hcut
          cases kq with
          | zero => exact absurd HA.out (by simp [swarfref33_Valid.j3])
          | succ kj60 =>
           have H := HA.out
           clear HA
           simp only [swarfref33_Valid.j3] at H
           by_cases c70 : x86_60 = true
           ·subst c70
            have H1 : ((swarfref33_right.f a0_0 a0_1 a0_2 a1_0 a1_1 a1_2 a1_3 a1_4 a1_5 a1_6).bind fun t197 => (if t197 = true then (some 11) else (some 1))) = some r := by rw [if_pos rfl] at H; exact H
            clear H
            have H := H1
            clear H1
            replace H := Option.bind_eq_some_iff.mp H
            obtain ⟨t197, A710, H⟩ := H
            replace H : (if t197 = true then (some 11) else (some 1)) = some r := H
            have A71 := Aside0.mk A710
            clear A710
            by_cases c72 : t197 = true
            ·subst c72
             have H1 : (some 11) = some r := by rw [if_pos rfl] at H; exact H
             clear H
             have H := H1
             clear H1
             obtain rfl := Option.some.inj H
             have hnb73 := NB186_187.out
             have hnc73 := NB187_186.out
             obtain ⟨hcz74_0, hcz74_1, hcz74_2⟩ := cells3 BK186.out
             obtain ⟨hcz75_0, hcz75_1, hcz75_2, hcz75_3, hcz75_4, hcz75_5, hcz75_6⟩ := cells7 BK187.out
             go_wp2_with (first | ((with_reducible refine gate_callee (f := 36) rfl ?_); refine goesL_ (some 89) rfl rfl Try.func36 (by kernel_rfl) rfl #[.agg #[.int .i64 a0_0, .int .i64 a0_1, .int .i64 a0_2], .agg #[.int .i64 a1_0, .int .i64 a1_1, .int .i64 a1_2, .int .i64 a1_3, .int .i64 a1_4, .int .i64 a1_5, .int .i64 a1_6]] rfl (by (try simp only [List.map_toArray, List.map_cons, List.map_nil]); first | done | rfl | (simp only [List.length_drop, List.length_take]; rfl)) ?_; (with_reducible refine (swarfref33_right.calls a0_0 a0_1 a0_2 a1_0 a1_1 a1_2 a1_3 a1_4 a1_5 a1_6 true _ A71.out).mono ?_); rintro e w76 ⟨rfl, hb⟩; refine ⟨_, rfl, ?_⟩; have n0_ := Aside0.mk (blk_below (by exact BK186.out) hb); have n1_ := Aside0.mk (blk_below (by exact BK187.out) hb); have n2_ := Aside0.mk (below_step (by first | exact HB.out | exact pw_below_drewN HB.out _) hb); clear BK186; clear BK187; clear HB; have BK186 := n0_; have BK187 := n1_; have HB := n2_; clear n0_ n1_ n2_; (try clear hb); (try clear hb2); (try clear hk); (try clear hi)))
             go_ret
             exact ⟨by first | rfl | (simp [errW_none, errW_some] <;> rfl) | (simp [*, errW_none, errW_some] <;> rfl), by repeat (first | (with_reducible first | exact HB.out | apply below_alloc | apply pw_below_drewN | apply below_drew1 | refine below_set ?_ GE186.out | refine below_set ?_ GE187.out) | exact HB.out)⟩
            ·replace c72 := Bool.eq_false_iff.mpr c72
             subst c72
             have H1 : (some 1) = some r := by rw [if_neg (show ¬ (false = true) by decide)] at H; exact H
             clear H
             have H := H1
             clear H1
             obtain rfl := Option.some.inj H
             have hnb77 := NB186_187.out
             have hnc77 := NB187_186.out
             obtain ⟨hcz78_0, hcz78_1, hcz78_2⟩ := cells3 BK186.out
             obtain ⟨hcz79_0, hcz79_1, hcz79_2, hcz79_3, hcz79_4, hcz79_5, hcz79_6⟩ := cells7 BK187.out
             go_wp2_with (first | ((with_reducible refine gate_callee (f := 36) rfl ?_); refine goesL_ (some 89) rfl rfl Try.func36 (by kernel_rfl) rfl #[.agg #[.int .i64 a0_0, .int .i64 a0_1, .int .i64 a0_2], .agg #[.int .i64 a1_0, .int .i64 a1_1, .int .i64 a1_2, .int .i64 a1_3, .int .i64 a1_4, .int .i64 a1_5, .int .i64 a1_6]] rfl (by (try simp only [List.map_toArray, List.map_cons, List.map_nil]); first | done | rfl | (simp only [List.length_drop, List.length_take]; rfl)) ?_; (with_reducible refine (swarfref33_right.calls a0_0 a0_1 a0_2 a1_0 a1_1 a1_2 a1_3 a1_4 a1_5 a1_6 false _ A71.out).mono ?_); rintro e w80 ⟨rfl, hb⟩; refine ⟨_, rfl, ?_⟩; have n0_ := Aside0.mk (blk_below (by exact BK186.out) hb); have n1_ := Aside0.mk (blk_below (by exact BK187.out) hb); have n2_ := Aside0.mk (below_step (by first | exact HB.out | exact pw_below_drewN HB.out _) hb); clear BK186; clear BK187; clear HB; have BK186 := n0_; have BK187 := n1_; have HB := n2_; clear n0_ n1_ n2_; (try clear hb); (try clear hb2); (try clear hk); (try clear hi)))
             go_ret
             exact ⟨by first | rfl | (simp [errW_none, errW_some] <;> rfl) | (simp [*, errW_none, errW_some] <;> rfl), by repeat (first | (with_reducible first | exact HB.out | apply below_alloc | apply pw_below_drewN | apply below_drew1 | refine below_set ?_ GE186.out | refine below_set ?_ GE187.out) | exact HB.out)⟩
           ·replace c70 := Bool.eq_false_iff.mpr c70
            subst c70
            have H1 : ((swarfref33_quadrant.f kj60 (wrap64 (a0_0 - a1_4)) (wrap64 (a0_1 - a1_5))).bind fun bt198 => ((swarfref33_quadrant.f kj60 (wrap64 (a1_1 - a1_4)) (wrap64 (a1_2 - a1_5))).bind fun bt200 => (if bt198.1 < 0 then (swarfref33_Valid.j4 kj60 bt198.2 true a1_0 a1_1 a1_2 a1_3 a1_4 a1_5 a1_6) else (if bt200.1 < 0 then (swarfref33_Valid.j4 kj60 bt198.2 true a1_0 a1_1 a1_2 a1_3 a1_4 a1_5 a1_6) else (swarfref33_Valid.j4 kj60 bt198.2 (bt198.2 != bt200.2) a1_0 a1_1 a1_2 a1_3 a1_4 a1_5 a1_6))))) = some r := by rw [if_neg (show ¬ (false = true) by decide)] at H; exact H
            clear H
            have H := H1
            clear H1
            replace H := Option.bind_eq_some_iff.mp H
            obtain ⟨⟨t198, t199⟩, A810, H⟩ := H
            replace H : ((swarfref33_quadrant.f kj60 (wrap64 (a1_1 - a1_4)) (wrap64 (a1_2 - a1_5))).bind fun bt200 => (if t198 < 0 then (swarfref33_Valid.j4 kj60 t199 true a1_0 a1_1 a1_2 a1_3 a1_4 a1_5 a1_6) else (if bt200.1 < 0 then (swarfref33_Valid.j4 kj60 t199 true a1_0 a1_1 a1_2 a1_3 a1_4 a1_5 a1_6) else (swarfref33_Valid.j4 kj60 t199 (t199 != bt200.2) a1_0 a1_1 a1_2 a1_3 a1_4 a1_5 a1_6)))) = some r := H
            have A81 := Aside0.mk A810
            clear A810
            replace H := Option.bind_eq_some_iff.mp H
            obtain ⟨⟨t200, t201⟩, A820, H⟩ := H
            replace H : (if t198 < 0 then (swarfref33_Valid.j4 kj60 t199 true a1_0 a1_1 a1_2 a1_3 a1_4 a1_5 a1_6) else (if t200 < 0 then (swarfref33_Valid.j4 kj60 t199 true a1_0 a1_1 a1_2 a1_3 a1_4 a1_5 a1_6) else (swarfref33_Valid.j4 kj60 t199 (t199 != t201) a1_0 a1_1 a1_2 a1_3 a1_4 a1_5 a1_6))) = some r := H
            have A82 := Aside0.mk A820
            clear A820
            have HC83 := Aside0.mk H
            clear H
            have hnb84 := NB186_187.out
            have hnc84 := NB187_186.out
            obtain ⟨hcz85_0, hcz85_1, hcz85_2⟩ := cells3 BK186.out
            obtain ⟨hcz86_0, hcz86_1, hcz86_2, hcz86_3, hcz86_4, hcz86_5, hcz86_6⟩ := cells7 BK187.out
            go_upto_region 15 with (first | ((with_reducible refine gate_callee (f := 32) rfl ?_); refine goesL_ (some 104) rfl rfl Try.func32 (by kernel_rfl) rfl #[.int .i64 (wrap64 (a0_0 - a1_4)), .int .i64 (wrap64 (a0_1 - a1_5))] rfl (by (try simp only [List.map_toArray, List.map_cons, List.map_nil]); first | done | rfl | (simp only [List.length_drop, List.length_take]; rfl)) ?_; (with_reducible refine (swarfref33_quadrant.calls kj60 (wrap64 (a0_0 - a1_4)) (wrap64 (a0_1 - a1_5)) t198 t199 _ A81.out).mono ?_); rintro e w' ⟨rfl, ⟨nd, rfl⟩⟩; refine ⟨_, rfl, ?_⟩) | ((with_reducible refine gate_callee (f := 32) rfl ?_); refine goesL_ (some 122) rfl rfl Try.func32 (by kernel_rfl) rfl #[.int .i64 (wrap64 (a1_1 - a1_4)), .int .i64 (wrap64 (a1_2 - a1_5))] rfl (by (try simp only [List.map_toArray, List.map_cons, List.map_nil]); first | done | rfl | (simp only [List.length_drop, List.length_take]; rfl)) ?_; (with_reducible refine (swarfref33_quadrant.calls kj60 (wrap64 (a1_1 - a1_4)) (wrap64 (a1_2 - a1_5)) t200 t201 _ A82.out).mono ?_); rintro e w' ⟨rfl, ⟨nd, rfl⟩⟩; refine ⟨_, rfl, ?_⟩))
            (try simp only [Act.put, List.setIfInBounds_toArray, List.set_cons_zero, List.set_cons_succ])
            go_cut [135] (fun v135 wc => ∃ (kq : Nat) (x135_82 : Bool), v135 = .bool x135_82 ∧ Aside0 (swarfref33_Valid.j4 kq t199 x135_82 a1_0 a1_1 a1_2 a1_3 a1_4 a1_5 a1_6 = some r) ∧ Aside0 (kq ≤ kj60) ∧ Aside0 (wc.heap[gb186]? = some (.cells #[.int .i64 a0_0, .int .i64 a0_1, .int .i64 a0_2] 23 (0, 0))) ∧ Aside0 (wc.heap[gb187]? = some (.cells #[.int .i64 a1_0, .int .i64 a1_1, .int .i64 a1_2, .int .i64 a1_3, .int .i64 a1_4, .int .i64 a1_5, .int .i64 a1_6] 27 (0, 0))) ∧ Aside0 (Below w.heap.size w wc))
            case first =>
             have H := HC83.out
             clear HC83
             by_cases c87 : t198 < 0
             ·rw [if_pos c87] at H
              have c87b0 : decide (t198 < 0) = true := decide_eq_true c87
              clear c87
              (first | rw [c87b0] | (simp only [i64_w, i32_w]; rw [c87b0]) | skip)
              have H' := Aside0.mk H
              clear H
              go_wp2
              go_meet
              case rel => exact ⟨_, (true), (by first | rfl | (simp; done) | (simp [*]; done)), H', ⟨by have := HJ2.out; have := HJ19.out; have := HJ31.out; have := HJ60.out; first | omega | exact Nat.le_refl _⟩, ⟨by (with_reducible repeat (first | refine blk_drewN ?_ _ | refine blk_drew ?_ | refine blk_alloc ?_ _)); exact BK186.out⟩, ⟨by (with_reducible repeat (first | refine blk_drewN ?_ _ | refine blk_drew ?_ | refine blk_alloc ?_ _)); exact BK187.out⟩, ⟨by repeat (first | (with_reducible first | exact HB.out | apply below_alloc | apply pw_below_drewN | apply below_drew1 | refine below_set ?_ GE186.out | refine below_set ?_ GE187.out) | exact HB.out)⟩⟩
             ·rw [if_neg c87] at H
              have c87b0 : decide (t198 < 0) = false := decide_eq_false c87
              clear c87
              (first | rw [c87b0] | (simp only [i64_w, i32_w]; rw [c87b0]) | skip)
              by_cases c88 : t200 < 0
              ·rw [if_pos c88] at H
               have c88b0 : decide (t200 < 0) = true := decide_eq_true c88
               clear c88
               have H' := Aside0.mk H
               clear H
               go_wp2
               go_meet
               case rel => exact ⟨_, (true), (by first | rfl | (simp; done) | (simp [*]; done)), H', ⟨by have := HJ2.out; have := HJ19.out; have := HJ31.out; have := HJ60.out; first | omega | exact Nat.le_refl _⟩, ⟨by (with_reducible repeat (first | refine blk_drewN ?_ _ | refine blk_drew ?_ | refine blk_alloc ?_ _)); exact BK186.out⟩, ⟨by (with_reducible repeat (first | refine blk_drewN ?_ _ | refine blk_drew ?_ | refine blk_alloc ?_ _)); exact BK187.out⟩, ⟨by repeat (first | (with_reducible first | exact HB.out | apply below_alloc | apply pw_below_drewN | apply below_drew1 | refine below_set ?_ GE186.out | refine below_set ?_ GE187.out) | exact HB.out)⟩⟩
              ·rw [if_neg c88] at H
               have c88b0 : decide (t200 < 0) = false := decide_eq_false c88
               clear c88
               have H' := Aside0.mk H
               clear H
               go_wp2
               go_meet
               case rel => exact ⟨_, ((t199 != t201)), (by first | rfl | (simp; done) | (simp [*]; done)), H', ⟨by have := HJ2.out; have := HJ19.out; have := HJ31.out; have := HJ60.out; first | omega | exact Nat.le_refl _⟩, ⟨by (with_reducible repeat (first | refine blk_drewN ?_ _ | refine blk_drew ?_ | refine blk_alloc ?_ _)); exact BK186.out⟩, ⟨by (with_reducible repeat (first | refine blk_drewN ?_ _ | refine blk_drew ?_ | refine blk_alloc ?_ _)); exact BK187.out⟩, ⟨by repeat (first | (with_reducible first | exact HB.out | apply below_alloc | apply pw_below_drewN | apply below_drew1 | refine below_set ?_ GE186.out | refine below_set ?_ GE187.out) | exact HB.out)⟩⟩
            case rest =>
             clear HC83
             try clear c1
             try clear c2
             try clear p2
             try clear c3
             try clear c4
             try clear c5
             try clear c6
             try clear c6b0
             try clear c6b1
             try clear p6
             try clear c7
             try clear c7b0
             try clear c7b1
             try clear c8
             try clear c10
             try clear c10b0
             try clear c10b1
             try clear c11
             try clear c13
             try clear c15
             try clear c15b0
             try clear c15b1
             try clear c16
             try clear c18
             try clear c21
             try clear c23
             try clear c24
             try clear c28
             try clear c31
             try clear c32
             try clear c34
             try clear c35
             try clear c36
             try clear c38
             try clear c39
             try clear c42
             try clear c43
             try clear c46
             try clear c47
             try clear c51
             try clear c52
             try clear c56
             try clear c59
             try clear c60
             try clear c62
             try clear c64
             try clear p64
             try clear c65
             try clear c68
             try clear c70
             try clear c72
             try clear c73
             try clear c77
             try clear c84
             try clear c87
             try clear c87b0
             try clear c88
             try clear c88b0
             try clear hcz85_0
             try clear hcz85_1
             try clear hcz85_2
             try clear hcz86_0
             try clear hcz86_1
             try clear hcz86_2
             try clear hcz86_3
             try clear hcz86_4
             try clear hcz86_5
             try clear hcz86_6
             try clear p2
             obtain ⟨kq, x135_82, rfl, HA, HJ82, BK186, BK187, HB⟩ := hcut
             cases kq with
             | zero => exact absurd HA.out (by simp [swarfref33_Valid.j4])
             | succ kj82 =>
              have H := HA.out
              clear HA
              simp only [swarfref33_Valid.j4] at H
              by_cases c89 : x135_82 = true
              ·subst c89
               have H1 : (some 1) = some r := by rw [if_pos rfl] at H; exact H
               clear H
               have H := H1
               clear H1
               obtain rfl := Option.some.inj H
               go_wp2
               go_ret
               exact ⟨by first | rfl | (simp [errW_none, errW_some] <;> rfl) | (simp [*, errW_none, errW_some] <;> rfl), by repeat (first | (with_reducible first | exact HB.out | apply below_alloc | apply pw_below_drewN | apply below_drew1 | refine below_set ?_ GE186.out | refine below_set ?_ GE187.out) | exact HB.out)⟩
              ·replace c89 := Bool.eq_false_iff.mpr c89
               subst c89
               have H1 : ((swarfref33_far.f (wrap64 (a1_4 + t199))).bind fun t202 => (if t202 = true then (some 11) else ((swarfref33_far.f (wrap64 (a1_4 - t199))).bind fun t203 => (if t203 = true then (some 11) else ((swarfref33_far.f (wrap64 (a1_5 + t199))).bind fun t204 => (if t204 = true then (some 11) else ((swarfref33_far.f (wrap64 (a1_5 - t199))).bind fun t205 => (if t205 = true then (some 11) else (some 0))))))))) = some r := by rw [if_neg (show ¬ (false = true) by decide)] at H; exact H
               clear H
               have H := H1
               clear H1
               replace H := Option.bind_eq_some_iff.mp H
               obtain ⟨t202, A900, H⟩ := H
               replace H : (if t202 = true then (some 11) else ((swarfref33_far.f (wrap64 (a1_4 - t199))).bind fun t203 => (if t203 = true then (some 11) else ((swarfref33_far.f (wrap64 (a1_5 + t199))).bind fun t204 => (if t204 = true then (some 11) else ((swarfref33_far.f (wrap64 (a1_5 - t199))).bind fun t205 => (if t205 = true then (some 11) else (some 0)))))))) = some r := H
               have A90 := Aside0.mk A900
               clear A900
               by_cases c91 : t202 = true
               ·subst c91
                have H1 : (some 11) = some r := by rw [if_pos rfl] at H; exact H
                clear H
                have H := H1
                clear H1
                obtain rfl := Option.some.inj H
                have hnb92 := NB187_186.out
                have hnc92 := NB186_187.out
                obtain ⟨hcz93_0, hcz93_1, hcz93_2, hcz93_3, hcz93_4, hcz93_5, hcz93_6⟩ := cells7 BK187.out
                go_wp2_with (first | ((with_reducible refine gate_callee (f := 35) rfl ?_); refine goesL_ (some 141) rfl rfl Try.func35 (by kernel_rfl) rfl #[.int .i64 (wrap64 (a1_4 + t199))] rfl (by (try simp only [List.map_toArray, List.map_cons, List.map_nil]); first | done | rfl | (simp only [List.length_drop, List.length_take]; rfl)) ?_; (with_reducible refine (swarfref33_far.calls (wrap64 (a1_4 + t199)) true _ A90.out).mono ?_); rintro e w' ⟨rfl, ⟨nd, rfl⟩⟩; refine ⟨_, rfl, ?_⟩))
                go_ret
                exact ⟨by first | rfl | (simp [errW_none, errW_some] <;> rfl) | (simp [*, errW_none, errW_some] <;> rfl), by repeat (first | (with_reducible first | exact HB.out | apply below_alloc | apply pw_below_drewN | apply below_drew1 | refine below_set ?_ GE186.out | refine below_set ?_ GE187.out) | exact HB.out)⟩
               ·replace c91 := Bool.eq_false_iff.mpr c91
                subst c91
                have H1 : ((swarfref33_far.f (wrap64 (a1_4 - t199))).bind fun t203 => (if t203 = true then (some 11) else ((swarfref33_far.f (wrap64 (a1_5 + t199))).bind fun t204 => (if t204 = true then (some 11) else ((swarfref33_far.f (wrap64 (a1_5 - t199))).bind fun t205 => (if t205 = true then (some 11) else (some 0))))))) = some r := by rw [if_neg (show ¬ (false = true) by decide)] at H; exact H
                clear H
                have H := H1
                clear H1
                replace H := Option.bind_eq_some_iff.mp H
                obtain ⟨t203, A940, H⟩ := H
                replace H : (if t203 = true then (some 11) else ((swarfref33_far.f (wrap64 (a1_5 + t199))).bind fun t204 => (if t204 = true then (some 11) else ((swarfref33_far.f (wrap64 (a1_5 - t199))).bind fun t205 => (if t205 = true then (some 11) else (some 0)))))) = some r := H
                have A94 := Aside0.mk A940
                clear A940
                by_cases c95 : t203 = true
                ·subst c95
                 have H1 : (some 11) = some r := by rw [if_pos rfl] at H; exact H
                 clear H
                 have H := H1
                 clear H1
                 obtain rfl := Option.some.inj H
                 have hnb96 := NB187_186.out
                 have hnc96 := NB186_187.out
                 obtain ⟨hcz97_0, hcz97_1, hcz97_2, hcz97_3, hcz97_4, hcz97_5, hcz97_6⟩ := cells7 BK187.out
                 go_wp2_with (first | ((with_reducible refine gate_callee (f := 35) rfl ?_); refine goesL_ (some 141) rfl rfl Try.func35 (by kernel_rfl) rfl #[.int .i64 (wrap64 (a1_4 + t199))] rfl (by (try simp only [List.map_toArray, List.map_cons, List.map_nil]); first | done | rfl | (simp only [List.length_drop, List.length_take]; rfl)) ?_; (with_reducible refine (swarfref33_far.calls (wrap64 (a1_4 + t199)) false _ A90.out).mono ?_); rintro e w' ⟨rfl, ⟨nd, rfl⟩⟩; refine ⟨_, rfl, ?_⟩) | (go_at_call 35; (with_reducible refine (swarfref33_far.calls (wrap64 (a1_4 - t199)) true _ A94.out).mono ?_); rintro e w' ⟨rfl, ⟨nd, rfl⟩⟩))
                 go_ret
                 exact ⟨by first | rfl | (simp [errW_none, errW_some] <;> rfl) | (simp [*, errW_none, errW_some] <;> rfl), by repeat (first | (with_reducible first | exact HB.out | apply below_alloc | apply pw_below_drewN | apply below_drew1 | refine below_set ?_ GE186.out | refine below_set ?_ GE187.out) | exact HB.out)⟩
                ·replace c95 := Bool.eq_false_iff.mpr c95
                 subst c95
                 have H1 : ((swarfref33_far.f (wrap64 (a1_5 + t199))).bind fun t204 => (if t204 = true then (some 11) else ((swarfref33_far.f (wrap64 (a1_5 - t199))).bind fun t205 => (if t205 = true then (some 11) else (some 0))))) = some r := by rw [if_neg (show ¬ (false = true) by decide)] at H; exact H
                 clear H
                 have H := H1
                 clear H1
                 replace H := Option.bind_eq_some_iff.mp H
                 obtain ⟨t204, A980, H⟩ := H
                 replace H : (if t204 = true then (some 11) else ((swarfref33_far.f (wrap64 (a1_5 - t199))).bind fun t205 => (if t205 = true then (some 11) else (some 0)))) = some r := H
                 have A98 := Aside0.mk A980
                 clear A980
                 by_cases c99 : t204 = true
                 ·subst c99
                  have H1 : (some 11) = some r := by rw [if_pos rfl] at H; exact H
                  clear H
                  have H := H1
                  clear H1
                  obtain rfl := Option.some.inj H
                  have hnb100 := NB187_186.out
                  have hnc100 := NB186_187.out
                  obtain ⟨hcz101_0, hcz101_1, hcz101_2, hcz101_3, hcz101_4, hcz101_5, hcz101_6⟩ := cells7 BK187.out
                  go_wp2_with (first | ((with_reducible refine gate_callee (f := 35) rfl ?_); refine goesL_ (some 141) rfl rfl Try.func35 (by kernel_rfl) rfl #[.int .i64 (wrap64 (a1_4 + t199))] rfl (by (try simp only [List.map_toArray, List.map_cons, List.map_nil]); first | done | rfl | (simp only [List.length_drop, List.length_take]; rfl)) ?_; (with_reducible refine (swarfref33_far.calls (wrap64 (a1_4 + t199)) false _ A90.out).mono ?_); rintro e w' ⟨rfl, ⟨nd, rfl⟩⟩; refine ⟨_, rfl, ?_⟩) | (go_at_call 35; (with_reducible refine (swarfref33_far.calls (wrap64 (a1_4 - t199)) false _ A94.out).mono ?_); rintro e w' ⟨rfl, ⟨nd, rfl⟩⟩) | (go_at_call 35; (with_reducible refine (swarfref33_far.calls (wrap64 (a1_5 + t199)) true _ A98.out).mono ?_); rintro e w' ⟨rfl, ⟨nd, rfl⟩⟩))
                  go_ret
                  exact ⟨by first | rfl | (simp [errW_none, errW_some] <;> rfl) | (simp [*, errW_none, errW_some] <;> rfl), by repeat (first | (with_reducible first | exact HB.out | apply below_alloc | apply pw_below_drewN | apply below_drew1 | refine below_set ?_ GE186.out | refine below_set ?_ GE187.out) | exact HB.out)⟩
                 ·replace c99 := Bool.eq_false_iff.mpr c99
                  subst c99
                  have H1 : ((swarfref33_far.f (wrap64 (a1_5 - t199))).bind fun t205 => (if t205 = true then (some 11) else (some 0))) = some r := by rw [if_neg (show ¬ (false = true) by decide)] at H; exact H
                  clear H
                  have H := H1
                  clear H1
                  replace H := Option.bind_eq_some_iff.mp H
                  obtain ⟨t205, A1020, H⟩ := H
                  replace H : (if t205 = true then (some 11) else (some 0)) = some r := H
                  have A102 := Aside0.mk A1020
                  clear A1020
                  by_cases c103 : t205 = true
                  ·subst c103
                   have H1 : (some 11) = some r := by rw [if_pos rfl] at H; exact H
                   clear H
                   have H := H1
                   clear H1
                   obtain rfl := Option.some.inj H
                   have hnb104 := NB187_186.out
                   have hnc104 := NB186_187.out
                   obtain ⟨hcz105_0, hcz105_1, hcz105_2, hcz105_3, hcz105_4, hcz105_5, hcz105_6⟩ := cells7 BK187.out
                   go_wp2_with (first | ((with_reducible refine gate_callee (f := 35) rfl ?_); refine goesL_ (some 141) rfl rfl Try.func35 (by kernel_rfl) rfl #[.int .i64 (wrap64 (a1_4 + t199))] rfl (by (try simp only [List.map_toArray, List.map_cons, List.map_nil]); first | done | rfl | (simp only [List.length_drop, List.length_take]; rfl)) ?_; (with_reducible refine (swarfref33_far.calls (wrap64 (a1_4 + t199)) false _ A90.out).mono ?_); rintro e w' ⟨rfl, ⟨nd, rfl⟩⟩; refine ⟨_, rfl, ?_⟩) | (go_at_call 35; (with_reducible refine (swarfref33_far.calls (wrap64 (a1_4 - t199)) false _ A94.out).mono ?_); rintro e w' ⟨rfl, ⟨nd, rfl⟩⟩) | (go_at_call 35; (with_reducible refine (swarfref33_far.calls (wrap64 (a1_5 + t199)) false _ A98.out).mono ?_); rintro e w' ⟨rfl, ⟨nd, rfl⟩⟩) | (go_at_call 35; (with_reducible refine (swarfref33_far.calls (wrap64 (a1_5 - t199)) true _ A102.out).mono ?_); rintro e w' ⟨rfl, ⟨nd, rfl⟩⟩))
                   go_ret
                   exact ⟨by first | rfl | (simp [errW_none, errW_some] <;> rfl) | (simp [*, errW_none, errW_some] <;> rfl), by repeat (first | (with_reducible first | exact HB.out | apply below_alloc | apply pw_below_drewN | apply below_drew1 | refine below_set ?_ GE186.out | refine below_set ?_ GE187.out) | exact HB.out)⟩
                  ·replace c103 := Bool.eq_false_iff.mpr c103
                   subst c103
                   have H1 : (some 0) = some r := by rw [if_neg (show ¬ (false = true) by decide)] at H; exact H
                   clear H
                   have H := H1
                   clear H1
                   obtain rfl := Option.some.inj H
                   have hnb106 := NB187_186.out
                   have hnc106 := NB186_187.out
                   obtain ⟨hcz107_0, hcz107_1, hcz107_2, hcz107_3, hcz107_4, hcz107_5, hcz107_6⟩ := cells7 BK187.out
                   go_wp2_with (first | ((with_reducible refine gate_callee (f := 35) rfl ?_); refine goesL_ (some 141) rfl rfl Try.func35 (by kernel_rfl) rfl #[.int .i64 (wrap64 (a1_4 + t199))] rfl (by (try simp only [List.map_toArray, List.map_cons, List.map_nil]); first | done | rfl | (simp only [List.length_drop, List.length_take]; rfl)) ?_; (with_reducible refine (swarfref33_far.calls (wrap64 (a1_4 + t199)) false _ A90.out).mono ?_); rintro e w' ⟨rfl, ⟨nd, rfl⟩⟩; refine ⟨_, rfl, ?_⟩) | (go_at_call 35; (with_reducible refine (swarfref33_far.calls (wrap64 (a1_4 - t199)) false _ A94.out).mono ?_); rintro e w' ⟨rfl, ⟨nd, rfl⟩⟩) | (go_at_call 35; (with_reducible refine (swarfref33_far.calls (wrap64 (a1_5 + t199)) false _ A98.out).mono ?_); rintro e w' ⟨rfl, ⟨nd, rfl⟩⟩) | (go_at_call 35; (with_reducible refine (swarfref33_far.calls (wrap64 (a1_5 - t199)) false _ A102.out).mono ?_); rintro e w' ⟨rfl, ⟨nd, rfl⟩⟩))
                   go_ret
                   exact ⟨by first | rfl | (simp [errW_none, errW_some] <;> rfl) | (simp [*, errW_none, errW_some] <;> rfl), by repeat (first | (with_reducible first | exact HB.out | apply below_alloc | apply pw_below_drewN | apply below_drew1 | refine below_set ?_ GE186.out | refine below_set ?_ GE187.out) | exact HB.out)⟩
end Go.Proofs.Ytblonchpophnkaa.F
