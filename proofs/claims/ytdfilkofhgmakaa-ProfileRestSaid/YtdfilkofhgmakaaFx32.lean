-- The machine side of a proof, written by a program of the session out of Lean's print of the loaded functions. Lean checks it.
import Derived.Test.YtdfilkofhgmakaaFx0
import Derived.Test.YtdfilkofhgmakaaFx13
import Derived.Test.YtdfilkofhgmakaaFx18
import Derived.Test.YtdfilkofhgmakaaFx19
import Derived.Test.YtdfilkofhgmakaaFx26
import Derived.Test.YtdfilkofhgmakaaFx28
namespace Go.Proofs.Ytdfilkofhgmakaa.F
open Go.RowKit Go.Proofs.YtdfilkofhgmakaaW.PrintWords Go.Proofs.YtdfilkofhgmakaaW.PrintLast Go.Proofs.YtdfilkofhgmakaaW.PrintMore
attribute [local go_sem] max2_int min2_int max_two min_two max_three min_three max_four min_four   -- for this text's walks alone
set_option linter.unusedVariables false
set_option linter.unusedSimpArgs false
mutual
def swarflaw49_ProfileRest.j0 : Nat → Int → Int → Bool → Int → Int → Int → Option (Bool)
 | 0, _, _, _, _, _, _ => none
 | k + 1, x0, x1, x27, x259000, x259001, x259002 => if x27 = true then ((swarflaw49_awake.f k).bind fun t262 => (some t262)) else ((swarflaw49_theirs.f x259000 x259001 x259002).bind fun bt263 => ((profile_Stop.f k x0 x1 bt263.1 bt263.2.1 bt263.2.2).bind fun bt266 => (if bt266.2 = 0 then ((some (([] : List Int) : List Int)).bind fun y270 => (if y270.length + bt266.1.length < 17592186044416 then ((some (y270 ++ bt266.1 : List Int)).bind fun y273 => ((some (([0, 0] : List Int) : List Int)).bind fun y276 => (if y273.length + y276.length < 17592186044416 then ((some (y273 ++ y276 : List Int)).bind fun y279 => (swarflaw49_ProfileRest.l0 k x1 (wrap64 (x1 - x0)) y279 (y279.length : Int) 0 x259000 x259001 x259002)) else (none)))) else (none))) else (some false))))
def swarflaw49_ProfileRest.l0 : Nat → Int → Int → List Int → Int → Int → Int → Int → Int → Option (Bool)
 | 0, _, _, _, _, _, _, _, _ => none
 | k + 1, x9, x10, x47, x48, x49, x259000, x259001, x259002 => if x49 < x48 then (if 0 ≤ x49 then (if x49 < (x47.length : Int) then (if (rd x47 x49) < 0 then (some false) else (if (rd x47 x49) > x259000 then (some false) else (if (wrap64 ((rd x47 x49) - x9)) > x259001 then (some false) else (if (wrap64 ((rd x47 x49) - x9)) < (wrap64 (-x259001)) then (some false) else (if (wrap64 ((wrap64 ((rd x47 x49) - x9)) - x10)) > x259002 then (some false) else (if (wrap64 (x10 - (wrap64 ((rd x47 x49) - x9)))) > x259002 then (some false) else (swarflaw49_ProfileRest.l0 k (rd x47 x49) (wrap64 ((rd x47 x49) - x9)) x47 x48 (wrap64 (x49 + 1)) x259000 x259001 x259002))))))) else (none)) else (none)) else (some true)
end
def swarflaw49_ProfileRest.f (k : Nat) (a0 : Int) (a1 : Int) (a2_0 : Int) (a2_1 : Int) (a2_2 : Int) : Option (Bool) := (swarflaw49_awake.f k).bind fun t259 => (if t259 = true then ((swarflaw49_slow.f a2_0 a2_1 a2_2).bind fun t260 => (if t260 = true then ((swarfref49_Brakes.f k a0 a1 a2_0 a2_1 a2_2).bind fun t261 => (swarflaw49_ProfileRest.j0 k a0 a1 (t261 != 0) a2_0 a2_1 a2_2)) else (swarflaw49_ProfileRest.j0 k a0 a1 true a2_0 a2_1 a2_2))) else (swarflaw49_ProfileRest.j0 k a0 a1 true a2_0 a2_1 a2_2))
theorem swarflaw49_ProfileRest.mono_l : ∀ k, (∀ y0 y1 y2 y3 y4 y5, LeO (swarflaw49_ProfileRest.j0 k y0 y1 y2 y3 y4 y5) (swarflaw49_ProfileRest.j0 (k + 1) y0 y1 y2 y3 y4 y5)) ∧ (∀ y0 y1 y2 y3 y4 y5 y6 y7, LeO (swarflaw49_ProfileRest.l0 k y0 y1 y2 y3 y4 y5 y6 y7) (swarflaw49_ProfileRest.l0 (k + 1) y0 y1 y2 y3 y4 y5 y6 y7))
 | 0 => ⟨fun _ _ _ _ _ _ r h => by simp [swarflaw49_ProfileRest.j0] at h, fun _ _ _ _ _ _ _ _ r h => by simp [swarflaw49_ProfileRest.l0] at h⟩
 | k + 1 => by
  obtain ⟨ih0, ih1⟩ := swarflaw49_ProfileRest.mono_l k
  refine ⟨?_, ?_⟩
  ·intro y0 y1 y2 y3 y4 y5
   unfold swarflaw49_ProfileRest.j0
   repeat' first
   | (with_reducible exact ih0 _ _ _ _ _ _)
   | (with_reducible exact ih1 _ _ _ _ _ _ _ _)
   | (with_reducible exact profile_Stop.mono _ _ _ _ _ _)
   | (with_reducible exact swarflaw49_awake.mono _)
   | (with_reducible exact swarfref49_Brakes.mono _ _ _ _ _ _)
   | (with_reducible exact LeO.refl _)
   | (with_reducible exact LeO.none _)
   | (with_reducible refine LeO.ite ?_ ?_)
   | (with_reducible refine LeO.bind ?_ (fun _ => ?_))
   | exact ih0 _ _ _ _ _ _
   | exact ih1 _ _ _ _ _ _ _ _
   | exact profile_Stop.mono _ _ _ _ _ _
   | exact swarflaw49_awake.mono _
   | exact swarfref49_Brakes.mono _ _ _ _ _ _
   | exact LeO.none _
   | refine LeO.ite ?_ ?_
   | refine LeO.bind ?_ (fun _ => ?_)
  ·intro y0 y1 y2 y3 y4 y5 y6 y7
   unfold swarflaw49_ProfileRest.l0
   repeat' first
   | (with_reducible exact ih0 _ _ _ _ _ _)
   | (with_reducible exact ih1 _ _ _ _ _ _ _ _)
   | (with_reducible exact profile_Stop.mono _ _ _ _ _ _)
   | (with_reducible exact swarflaw49_awake.mono _)
   | (with_reducible exact swarfref49_Brakes.mono _ _ _ _ _ _)
   | (with_reducible exact LeO.refl _)
   | (with_reducible exact LeO.none _)
   | (with_reducible refine LeO.ite ?_ ?_)
   | (with_reducible refine LeO.bind ?_ (fun _ => ?_))
   | exact ih0 _ _ _ _ _ _
   | exact ih1 _ _ _ _ _ _ _ _
   | exact profile_Stop.mono _ _ _ _ _ _
   | exact swarflaw49_awake.mono _
   | exact swarfref49_Brakes.mono _ _ _ _ _ _
   | exact LeO.none _
   | refine LeO.ite ?_ ?_
   | refine LeO.bind ?_ (fun _ => ?_)
theorem swarflaw49_ProfileRest.mono : ∀ a0 a1 a2 a3 a4 k, LeO (swarflaw49_ProfileRest.f k a0 a1 a2 a3 a4) (swarflaw49_ProfileRest.f (k + 1) a0 a1 a2 a3 a4) := by
 intro a0 a1 a2 a3 a4 k
 obtain ⟨ih0, ih1⟩ := swarflaw49_ProfileRest.mono_l k
 unfold swarflaw49_ProfileRest.f
 repeat' first
   | (with_reducible exact ih0 _ _ _ _ _ _)
   | (with_reducible exact ih1 _ _ _ _ _ _ _ _)
   | (with_reducible exact profile_Stop.mono _ _ _ _ _ _)
   | (with_reducible exact swarflaw49_awake.mono _)
   | (with_reducible exact swarfref49_Brakes.mono _ _ _ _ _ _)
   | (with_reducible exact LeO.refl _)
   | (with_reducible exact LeO.none _)
   | (with_reducible refine LeO.ite ?_ ?_)
   | (with_reducible refine LeO.bind ?_ (fun _ => ?_))
   | exact ih0 _ _ _ _ _ _
   | exact ih1 _ _ _ _ _ _ _ _
   | exact profile_Stop.mono _ _ _ _ _ _
   | exact swarflaw49_awake.mono _
   | exact swarfref49_Brakes.mono _ _ _ _ _ _
   | exact LeO.none _
   | refine LeO.ite ?_ ?_
   | refine LeO.bind ?_ (fun _ => ?_)
set_option maxHeartbeats 8000000 in
set_option maxRecDepth 100000 in
theorem swarflaw49_ProfileRest.calls (k : Nat) (a0 : Int) (a1 : Int) (a2_0 : Int) (a2_1 : Int) (a2_2 : Int) (r : Bool) (w : World) (h : swarflaw49_ProfileRest.f k a0 a1 a2_0 a2_1 a2_2 = some r) :
  Calls Try.prog 6 #[.int .i64 a0, .int .i64 a1, .agg #[.int .i64 a2_0, .int .i64 a2_1, .int .i64 a2_2]] w fun e w' => e = .returned (.bool r) ∧ Below w.heap.size w w' := by
 have hu23 := Try.underlying23
 have HB := Aside0.mk (Below.refl w.heap.size w)
 have H : ((swarflaw49_awake.f k).bind fun t259 => (if t259 = true then ((swarflaw49_slow.f a2_0 a2_1 a2_2).bind fun t260 => (if t260 = true then ((swarfref49_Brakes.f k a0 a1 a2_0 a2_1 a2_2).bind fun t261 => (swarflaw49_ProfileRest.j0 k a0 a1 (t261 != 0) a2_0 a2_1 a2_2)) else (swarflaw49_ProfileRest.j0 k a0 a1 true a2_0 a2_1 a2_2))) else (swarflaw49_ProfileRest.j0 k a0 a1 true a2_0 a2_1 a2_2))) = some r := h
 clear h
 have HC4 := Aside0.mk H
 clear H
 go_enter Try.func6, Try.ntmps6
 go_upto_region 1 with (first | ((with_reducible refine gate_dst (N := 5) rfl ?_); refine box_event ?hg (N := 5) ?hd (cs := #[.int .i64 a2_0, .int .i64 a2_1, .int .i64 a2_2]) (t := 23) ?hr ?_; (case hd => rfl); (case hg => rfl); (case hr => first | (go_simp; done) | (go_simp; rfl)); intro gb258 hg w5 hbox hb; have n0_ := Aside0.mk (below_step (by repeat (first | (with_reducible first | exact HB.out | apply below_alloc | apply pw_below_drewN | apply below_drew1) | exact HB.out)) hb); have n1_ := Aside0.mk (hbox); have n2_ := Aside0.mk ((by rw [hg]; exact (below_size (by repeat (first | (with_reducible first | exact HB.out | apply below_alloc | apply pw_below_drewN | apply below_drew1) | exact HB.out))) : w.heap.size ≤ gb258)); have n3_ := Aside0.mk ((by rw [hg]; exact (below_size (by repeat (first | (with_reducible first | exact HB.out | apply below_alloc | apply pw_below_drewN | apply below_drew1) | exact HB.out))) : w.heap.size ≤ gb258)); clear HB; have HB := n0_; have BK258 := n1_; have GW258 := n2_; have GE258 := n3_; clear n0_ n1_ n2_ n3_; clear hb hbox hg))
 (try simp only [Act.put, List.setIfInBounds_toArray, List.set_cons_zero, List.set_cons_succ])
 go_cut [27] (fun v27 wc => ∃ (kq : Nat) (x27_3 : Bool), v27 = .bool x27_3 ∧ Aside0 (swarflaw49_ProfileRest.j0 kq a0 a1 x27_3 a2_0 a2_1 a2_2 = some r) ∧ Aside0 (kq ≤ k) ∧ Aside0 (wc.heap[gb258]? = some (.cells #[.int .i64 a2_0, .int .i64 a2_1, .int .i64 a2_2] 23 (0, 0))) ∧ Aside0 (Below w.heap.size w wc))
 case first =>
  have H := HC4.out
  clear HC4
  replace H := Option.bind_eq_some_iff.mp H
  obtain ⟨t259, A60, H⟩ := H
  replace H : (if t259 = true then ((swarflaw49_slow.f a2_0 a2_1 a2_2).bind fun t260 => (if t260 = true then ((swarfref49_Brakes.f k a0 a1 a2_0 a2_1 a2_2).bind fun t261 => (swarflaw49_ProfileRest.j0 k a0 a1 (t261 != 0) a2_0 a2_1 a2_2)) else (swarflaw49_ProfileRest.j0 k a0 a1 true a2_0 a2_1 a2_2))) else (swarflaw49_ProfileRest.j0 k a0 a1 true a2_0 a2_1 a2_2)) = some r := H
  have A6 := Aside0.mk A60
  clear A60
  by_cases c7 : t259 = true
  ·subst c7
   have H1 : ((swarflaw49_slow.f a2_0 a2_1 a2_2).bind fun t260 => (if t260 = true then ((swarfref49_Brakes.f k a0 a1 a2_0 a2_1 a2_2).bind fun t261 => (swarflaw49_ProfileRest.j0 k a0 a1 (t261 != 0) a2_0 a2_1 a2_2)) else (swarflaw49_ProfileRest.j0 k a0 a1 true a2_0 a2_1 a2_2))) = some r := by rw [if_pos rfl] at H; exact H
   clear H
   have H := H1
   clear H1
   replace H := Option.bind_eq_some_iff.mp H
   obtain ⟨t260, A80, H⟩ := H
   replace H : (if t260 = true then ((swarfref49_Brakes.f k a0 a1 a2_0 a2_1 a2_2).bind fun t261 => (swarflaw49_ProfileRest.j0 k a0 a1 (t261 != 0) a2_0 a2_1 a2_2)) else (swarflaw49_ProfileRest.j0 k a0 a1 true a2_0 a2_1 a2_2)) = some r := H
   have A8 := Aside0.mk A80
   clear A80
   by_cases c9 : t260 = true
   ·subst c9
    have H1 : ((swarfref49_Brakes.f k a0 a1 a2_0 a2_1 a2_2).bind fun t261 => (swarflaw49_ProfileRest.j0 k a0 a1 (t261 != 0) a2_0 a2_1 a2_2)) = some r := by rw [if_pos rfl] at H; exact H
    clear H
    have H := H1
    clear H1
    replace H := Option.bind_eq_some_iff.mp H
    obtain ⟨t261, A100, H⟩ := H
    replace H : (swarflaw49_ProfileRest.j0 k a0 a1 (t261 != 0) a2_0 a2_1 a2_2) = some r := H
    have A10 := Aside0.mk A100
    clear A100
    have H' := Aside0.mk H
    clear H
    go_wp2_with (first | ((with_reducible refine gate_callee (f := 11) rfl ?_); refine goesL_ (some 14) rfl rfl Try.func11 (by kernel_rfl) rfl #[] rfl (by (try simp only [List.map_toArray, List.map_cons, List.map_nil]); first | done | rfl | (simp only [List.length_drop, List.length_take]; rfl)) ?_; (with_reducible refine (swarflaw49_awake.calls k  true _ A6.out).mono ?_); rintro e w11 ⟨rfl, hb⟩; refine ⟨_, rfl, ?_⟩; have n0_ := Aside0.mk (blk_below (g := gb258) (o := .cells #[.int .i64 a2_0, .int .i64 a2_1, .int .i64 a2_2] 23 (0, 0)) (by (with_reducible repeat (first | refine blk_drewN ?_ _ | refine blk_drew ?_ | refine blk_alloc ?_ _)); exact BK258.out) hb); have n1_ := Aside0.mk (below_step (by repeat (first | (with_reducible first | exact HB.out | apply below_alloc | apply pw_below_drewN | apply below_drew1 | refine below_set ?_ GE258.out) | exact HB.out)) hb); clear BK258; clear HB; have BK258 := n0_; have HB := n1_; clear n0_ n1_; (try clear hb); (try clear hb2); (try clear hk); (try clear hi); have hcz12_0 : w11.cell? ⟨gb258, 0, none⟩ = some (.int .i64 a2_0) := (blk_cell BK258.out 0).trans rfl; have hcz12_1 : w11.cell? ⟨gb258, 1, none⟩ = some (.int .i64 a2_1) := (blk_cell BK258.out 1).trans rfl; have hcz12_2 : w11.cell? ⟨gb258, 2, none⟩ = some (.int .i64 a2_2) := (blk_cell BK258.out 2).trans rfl; have hfz12_0 := blk_frozen BK258.out 0; have hfz12_1 := blk_frozen BK258.out 1; have hfz12_2 := blk_frozen BK258.out 2) | (go_at_call 19; (with_reducible refine (swarflaw49_slow.calls a2_0 a2_1 a2_2 true _ A8.out).mono ?_); rintro e w13 ⟨rfl, hb⟩; have n0_ := Aside0.mk (blk_below (g := gb258) (o := .cells #[.int .i64 a2_0, .int .i64 a2_1, .int .i64 a2_2] 23 (0, 0)) (by (with_reducible repeat (first | refine blk_drewN ?_ _ | refine blk_drew ?_ | refine blk_alloc ?_ _)); exact BK258.out) hb); have n1_ := Aside0.mk (below_step (by repeat (first | (with_reducible first | exact HB.out | apply below_alloc | apply pw_below_drewN | apply below_drew1 | refine below_set ?_ GE258.out) | exact HB.out)) hb); clear BK258; clear HB; have BK258 := n0_; have HB := n1_; clear n0_ n1_; (try clear hb); (try clear hb2); (try clear hk); (try clear hi); have hcz14_0 : w13.cell? ⟨gb258, 0, none⟩ = some (.int .i64 a2_0) := (blk_cell BK258.out 0).trans rfl; have hcz14_1 : w13.cell? ⟨gb258, 1, none⟩ = some (.int .i64 a2_1) := (blk_cell BK258.out 1).trans rfl; have hcz14_2 : w13.cell? ⟨gb258, 2, none⟩ = some (.int .i64 a2_2) := (blk_cell BK258.out 2).trans rfl; have hfz14_0 := blk_frozen BK258.out 0; have hfz14_1 := blk_frozen BK258.out 1; have hfz14_2 := blk_frozen BK258.out 2) | (go_at_call 22; (with_reducible refine (swarfref49_Brakes.calls k a0 a1 a2_0 a2_1 a2_2 t261 _ A10.out).mono ?_); rintro e w15 ⟨rfl, hb⟩; have n0_ := Aside0.mk (blk_below (g := gb258) (o := .cells #[.int .i64 a2_0, .int .i64 a2_1, .int .i64 a2_2] 23 (0, 0)) (by (with_reducible repeat (first | refine blk_drewN ?_ _ | refine blk_drew ?_ | refine blk_alloc ?_ _)); exact BK258.out) hb); have n1_ := Aside0.mk (below_step (by repeat (first | (with_reducible first | exact HB.out | apply below_alloc | apply pw_below_drewN | apply below_drew1 | refine below_set ?_ GE258.out) | exact HB.out)) hb); clear BK258; clear HB; have BK258 := n0_; have HB := n1_; clear n0_ n1_; (try clear hb); (try clear hb2); (try clear hk); (try clear hi)))
    go_meet
    case rel => exact ⟨_, ((t261 != 0)), (by first | rfl | (simp; done) | (simp [*]; done)), H', ⟨by first | omega | exact Nat.le_refl _⟩, ⟨by (with_reducible repeat (first | refine blk_drewN ?_ _ | refine blk_drew ?_ | refine blk_alloc ?_ _)); exact BK258.out⟩, ⟨by repeat (first | (with_reducible first | exact HB.out | apply below_alloc | apply pw_below_drewN | apply below_drew1 | refine below_set ?_ GE258.out) | exact HB.out)⟩⟩
   ·replace c9 := Bool.eq_false_iff.mpr c9
    subst c9
    have H1 : (swarflaw49_ProfileRest.j0 k a0 a1 true a2_0 a2_1 a2_2) = some r := by rw [if_neg (show ¬ (false = true) by decide)] at H; exact H
    clear H
    have H := H1
    clear H1
    have H' := Aside0.mk H
    clear H
    go_wp2_with (first | ((with_reducible refine gate_callee (f := 11) rfl ?_); refine goesL_ (some 14) rfl rfl Try.func11 (by kernel_rfl) rfl #[] rfl (by (try simp only [List.map_toArray, List.map_cons, List.map_nil]); first | done | rfl | (simp only [List.length_drop, List.length_take]; rfl)) ?_; (with_reducible refine (swarflaw49_awake.calls k  true _ A6.out).mono ?_); rintro e w16 ⟨rfl, hb⟩; refine ⟨_, rfl, ?_⟩; have n0_ := Aside0.mk (blk_below (g := gb258) (o := .cells #[.int .i64 a2_0, .int .i64 a2_1, .int .i64 a2_2] 23 (0, 0)) (by (with_reducible repeat (first | refine blk_drewN ?_ _ | refine blk_drew ?_ | refine blk_alloc ?_ _)); exact BK258.out) hb); have n1_ := Aside0.mk (below_step (by repeat (first | (with_reducible first | exact HB.out | apply below_alloc | apply pw_below_drewN | apply below_drew1 | refine below_set ?_ GE258.out) | exact HB.out)) hb); clear BK258; clear HB; have BK258 := n0_; have HB := n1_; clear n0_ n1_; (try clear hb); (try clear hb2); (try clear hk); (try clear hi); have hcz17_0 : w16.cell? ⟨gb258, 0, none⟩ = some (.int .i64 a2_0) := (blk_cell BK258.out 0).trans rfl; have hcz17_1 : w16.cell? ⟨gb258, 1, none⟩ = some (.int .i64 a2_1) := (blk_cell BK258.out 1).trans rfl; have hcz17_2 : w16.cell? ⟨gb258, 2, none⟩ = some (.int .i64 a2_2) := (blk_cell BK258.out 2).trans rfl; have hfz17_0 := blk_frozen BK258.out 0; have hfz17_1 := blk_frozen BK258.out 1; have hfz17_2 := blk_frozen BK258.out 2) | (go_at_call 19; (with_reducible refine (swarflaw49_slow.calls a2_0 a2_1 a2_2 false _ A8.out).mono ?_); rintro e w18 ⟨rfl, hb⟩; have n0_ := Aside0.mk (blk_below (g := gb258) (o := .cells #[.int .i64 a2_0, .int .i64 a2_1, .int .i64 a2_2] 23 (0, 0)) (by (with_reducible repeat (first | refine blk_drewN ?_ _ | refine blk_drew ?_ | refine blk_alloc ?_ _)); exact BK258.out) hb); have n1_ := Aside0.mk (below_step (by repeat (first | (with_reducible first | exact HB.out | apply below_alloc | apply pw_below_drewN | apply below_drew1 | refine below_set ?_ GE258.out) | exact HB.out)) hb); clear BK258; clear HB; have BK258 := n0_; have HB := n1_; clear n0_ n1_; (try clear hb); (try clear hb2); (try clear hk); (try clear hi)))
    go_meet
    case rel => exact ⟨_, (true), (by first | rfl | (simp; done) | (simp [*]; done)), H', ⟨by first | omega | exact Nat.le_refl _⟩, ⟨by (with_reducible repeat (first | refine blk_drewN ?_ _ | refine blk_drew ?_ | refine blk_alloc ?_ _)); exact BK258.out⟩, ⟨by repeat (first | (with_reducible first | exact HB.out | apply below_alloc | apply pw_below_drewN | apply below_drew1 | refine below_set ?_ GE258.out) | exact HB.out)⟩⟩
  ·replace c7 := Bool.eq_false_iff.mpr c7
   subst c7
   have H1 : (swarflaw49_ProfileRest.j0 k a0 a1 true a2_0 a2_1 a2_2) = some r := by rw [if_neg (show ¬ (false = true) by decide)] at H; exact H
   clear H
   have H := H1
   clear H1
   have H' := Aside0.mk H
   clear H
   go_wp2_with (first | ((with_reducible refine gate_callee (f := 11) rfl ?_); refine goesL_ (some 14) rfl rfl Try.func11 (by kernel_rfl) rfl #[] rfl (by (try simp only [List.map_toArray, List.map_cons, List.map_nil]); first | done | rfl | (simp only [List.length_drop, List.length_take]; rfl)) ?_; (with_reducible refine (swarflaw49_awake.calls k  false _ A6.out).mono ?_); rintro e w19 ⟨rfl, hb⟩; refine ⟨_, rfl, ?_⟩; have n0_ := Aside0.mk (blk_below (g := gb258) (o := .cells #[.int .i64 a2_0, .int .i64 a2_1, .int .i64 a2_2] 23 (0, 0)) (by (with_reducible repeat (first | refine blk_drewN ?_ _ | refine blk_drew ?_ | refine blk_alloc ?_ _)); exact BK258.out) hb); have n1_ := Aside0.mk (below_step (by repeat (first | (with_reducible first | exact HB.out | apply below_alloc | apply pw_below_drewN | apply below_drew1 | refine below_set ?_ GE258.out) | exact HB.out)) hb); clear BK258; clear HB; have BK258 := n0_; have HB := n1_; clear n0_ n1_; (try clear hb); (try clear hb2); (try clear hk); (try clear hi)))
   go_meet
   case rel => exact ⟨_, (true), (by first | rfl | (simp; done) | (simp [*]; done)), H', ⟨by first | omega | exact Nat.le_refl _⟩, ⟨by (with_reducible repeat (first | refine blk_drewN ?_ _ | refine blk_drew ?_ | refine blk_alloc ?_ _)); exact BK258.out⟩, ⟨by repeat (first | (with_reducible first | exact HB.out | apply below_alloc | apply pw_below_drewN | apply below_drew1 | refine below_set ?_ GE258.out) | exact HB.out)⟩⟩
 case rest =>
  clear HC4
  try clear c1
  try clear p2
  try clear c6
  try clear c7
  try clear c9
  try clear c11
  try clear hcz12_0
  try clear hcz12_1
  try clear hcz12_2
  try clear hcz14_0
  try clear hcz14_1
  try clear hcz14_2
  try clear hcz17_0
  try clear hcz17_1
  try clear hcz17_2
  try clear hfz12_0
  try clear hfz12_1
  try clear hfz12_2
  try clear hfz14_0
  try clear hfz14_1
  try clear hfz14_2
  try clear hfz17_0
  try clear hfz17_1
  try clear hfz17_2
  obtain ⟨kq, x27_3, rfl, HA, HJ3, BK258, HB⟩ := hcut
  cases kq with
  | zero => exact absurd HA.out (by simp [swarflaw49_ProfileRest.j0])
  | succ kj3 =>
   have H := HA.out
   clear HA
   simp only [swarflaw49_ProfileRest.j0] at H
   by_cases c20 : x27_3 = true
   ·subst c20
    have H1 : ((swarflaw49_awake.f kj3).bind fun t262 => (some t262)) = some r := by rw [if_pos rfl] at H; exact H
    clear H
    have H := H1
    clear H1
    replace H := Option.bind_eq_some_iff.mp H
    obtain ⟨t262, A210, H⟩ := H
    replace H : (some t262) = some r := H
    have A21 := Aside0.mk A210
    clear A210
    obtain rfl := Option.some.inj H
    go_wp2_with (first | ((with_reducible refine gate_callee (f := 11) rfl ?_); refine goesL_ (some 28) rfl rfl Try.func11 (by kernel_rfl) rfl #[] rfl (by (try simp only [List.map_toArray, List.map_cons, List.map_nil]); first | done | rfl | (simp only [List.length_drop, List.length_take]; rfl)) ?_; (with_reducible refine (swarflaw49_awake.calls kj3  t262 _ A21.out).mono ?_); rintro e w22 ⟨rfl, hb⟩; refine ⟨_, rfl, ?_⟩; have n0_ := Aside0.mk (blk_below (g := gb258) (o := .cells #[.int .i64 a2_0, .int .i64 a2_1, .int .i64 a2_2] 23 (0, 0)) (by (with_reducible repeat (first | refine blk_drewN ?_ _ | refine blk_drew ?_ | refine blk_alloc ?_ _)); exact BK258.out) hb); have n1_ := Aside0.mk (below_step (by repeat (first | (with_reducible first | exact HB.out | apply below_alloc | apply pw_below_drewN | apply below_drew1 | refine below_set ?_ GE258.out) | exact HB.out)) hb); clear BK258; clear HB; have BK258 := n0_; have HB := n1_; clear n0_ n1_; (try clear hb); (try clear hb2); (try clear hk); (try clear hi)))
    go_ret
    exact ⟨by first | rfl | (simp [errW_none, errW_some] <;> rfl) | (simp [*, errW_none, errW_some] <;> rfl), by repeat (first | (with_reducible first | exact HB.out | apply below_alloc | apply pw_below_drewN | apply below_drew1 | refine below_set ?_ GE258.out) | exact HB.out)⟩
   ·replace c20 := Bool.eq_false_iff.mpr c20
    subst c20
    have H1 : ((swarflaw49_theirs.f a2_0 a2_1 a2_2).bind fun bt263 => ((profile_Stop.f kj3 a0 a1 bt263.1 bt263.2.1 bt263.2.2).bind fun bt266 => (if bt266.2 = 0 then ((some (([] : List Int) : List Int)).bind fun y270 => (if y270.length + bt266.1.length < 17592186044416 then ((some (y270 ++ bt266.1 : List Int)).bind fun y273 => ((some (([0, 0] : List Int) : List Int)).bind fun y276 => (if y273.length + y276.length < 17592186044416 then ((some (y273 ++ y276 : List Int)).bind fun y279 => (swarflaw49_ProfileRest.l0 kj3 a1 (wrap64 (a1 - a0)) y279 (y279.length : Int) 0 a2_0 a2_1 a2_2)) else (none)))) else (none))) else (some false)))) = some r := by rw [if_neg (show ¬ (false = true) by decide)] at H; exact H
    clear H
    have H := H1
    clear H1
    replace H := Option.bind_eq_some_iff.mp H
    obtain ⟨⟨t263, t264, t265⟩, A230, H⟩ := H
    replace H : ((profile_Stop.f kj3 a0 a1 t263 t264 t265).bind fun bt266 => (if bt266.2 = 0 then ((some (([] : List Int) : List Int)).bind fun y270 => (if y270.length + bt266.1.length < 17592186044416 then ((some (y270 ++ bt266.1 : List Int)).bind fun y273 => ((some (([0, 0] : List Int) : List Int)).bind fun y276 => (if y273.length + y276.length < 17592186044416 then ((some (y273 ++ y276 : List Int)).bind fun y279 => (swarflaw49_ProfileRest.l0 kj3 a1 (wrap64 (a1 - a0)) y279 (y279.length : Int) 0 a2_0 a2_1 a2_2)) else (none)))) else (none))) else (some false))) = some r := H
    have A23 := Aside0.mk A230
    clear A230
    replace H := Option.bind_eq_some_iff.mp H
    obtain ⟨⟨t266, t269⟩, A240, H⟩ := H
    replace H : (if t269 = 0 then ((some (([] : List Int) : List Int)).bind fun y270 => (if y270.length + t266.length < 17592186044416 then ((some (y270 ++ t266 : List Int)).bind fun y273 => ((some (([0, 0] : List Int) : List Int)).bind fun y276 => (if y273.length + y276.length < 17592186044416 then ((some (y273 ++ y276 : List Int)).bind fun y279 => (swarflaw49_ProfileRest.l0 kj3 a1 (wrap64 (a1 - a0)) y279 (y279.length : Int) 0 a2_0 a2_1 a2_2)) else (none)))) else (none))) else (some false)) = some r := H
    have A24 := Aside0.mk A240
    clear A240
    by_cases c25 : t269 = 0
    ·rw [if_pos c25] at H
     have c25b0 : (t269 == 0) = true := beq_iff_eq.mpr c25
     have c25b1 : (t269 != 0) = false := bne_eq_false_iff_eq.mpr c25
     clear c25
     obtain ⟨y270, hy270⟩ : ∃ y_ : List Int, y_ = (([] : List Int)) := ⟨_, rfl⟩
     replace H : (if y270.length + t266.length < 17592186044416 then ((some (y270 ++ t266 : List Int)).bind fun y273 => ((some (([0, 0] : List Int) : List Int)).bind fun y276 => (if y273.length + y276.length < 17592186044416 then ((some (y273 ++ y276 : List Int)).bind fun y279 => (swarflaw49_ProfileRest.l0 kj3 a1 (wrap64 (a1 - a0)) y279 (y279.length : Int) 0 a2_0 a2_1 a2_2)) else (none)))) else (none)) = some r := by first | (rw [hy270]; with_reducible exact H) | (have H2_ := (Option.bind_some _ _).symm.trans H; rw [hy270]; with_reducible exact H2_) | (have H2_ := (Option.bind_some _ _).symm.trans H; with_reducible exact H2_) | with_reducible exact H | (rw [hy270]; exact H) | exact H
     have Ny270 := Aside0.mk hy270
     clear hy270
     by_cases c26 : y270.length + t266.length < 17592186044416
     ·rw [if_pos c26] at H
      have LMc26 := Aside0.mk c26
      clear c26
      obtain ⟨y273, hy273⟩ : ∃ y_ : List Int, y_ = (y270 ++ t266) := ⟨_, rfl⟩
      replace H : ((some (([0, 0] : List Int) : List Int)).bind fun y276 => (if y273.length + y276.length < 17592186044416 then ((some (y273 ++ y276 : List Int)).bind fun y279 => (swarflaw49_ProfileRest.l0 kj3 a1 (wrap64 (a1 - a0)) y279 (y279.length : Int) 0 a2_0 a2_1 a2_2)) else (none))) = some r := by first | (rw [hy273]; with_reducible exact H) | (have H2_ := (Option.bind_some _ _).symm.trans H; rw [hy273]; with_reducible exact H2_) | (have H2_ := (Option.bind_some _ _).symm.trans H; with_reducible exact H2_) | with_reducible exact H | (rw [hy273]; exact H) | exact H
      have Ny273 := Aside0.mk hy273
      clear hy273
      obtain ⟨y276, hy276⟩ : ∃ y_ : List Int, y_ = (([0, 0] : List Int)) := ⟨_, rfl⟩
      replace H : (if y273.length + y276.length < 17592186044416 then ((some (y273 ++ y276 : List Int)).bind fun y279 => (swarflaw49_ProfileRest.l0 kj3 a1 (wrap64 (a1 - a0)) y279 (y279.length : Int) 0 a2_0 a2_1 a2_2)) else (none)) = some r := by first | (rw [hy276]; with_reducible exact H) | (have H2_ := (Option.bind_some _ _).symm.trans H; rw [hy276]; with_reducible exact H2_) | (have H2_ := (Option.bind_some _ _).symm.trans H; with_reducible exact H2_) | with_reducible exact H | (rw [hy276]; exact H) | exact H
      have Ny276 := Aside0.mk hy276
      clear hy276
      by_cases c27 : y273.length + y276.length < 17592186044416
      ·rw [if_pos c27] at H
       have LMc27 := Aside0.mk c27
       clear c27
       obtain ⟨y279, hy279⟩ : ∃ y_ : List Int, y_ = (y273 ++ y276) := ⟨_, rfl⟩
       replace H : (swarflaw49_ProfileRest.l0 kj3 a1 (wrap64 (a1 - a0)) y279 (y279.length : Int) 0 a2_0 a2_1 a2_2) = some r := by first | (rw [hy279]; with_reducible exact H) | (have H2_ := (Option.bind_some _ _).symm.trans H; rw [hy279]; with_reducible exact H2_) | (have H2_ := (Option.bind_some _ _).symm.trans H; with_reducible exact H2_) | with_reducible exact H | (rw [hy279]; exact H) | exact H
       have Ny279 := Aside0.mk hy279
       clear hy279
       have H' := Aside0.mk H
       clear H
       have hcz28_0 : wc.cell? ⟨gb258, 0, none⟩ = some (.int .i64 a2_0) := (blk_cell BK258.out 0).trans rfl
       have hcz28_1 : wc.cell? ⟨gb258, 1, none⟩ = some (.int .i64 a2_1) := (blk_cell BK258.out 1).trans rfl
       have hcz28_2 : wc.cell? ⟨gb258, 2, none⟩ = some (.int .i64 a2_2) := (blk_cell BK258.out 2).trans rfl
       have hfz28_0 := blk_frozen BK258.out 0
       have hfz28_1 := blk_frozen BK258.out 1
       have hfz28_2 := blk_frozen BK258.out 2
       go_wp2_with (first | ((with_reducible refine gate_callee (f := 13) rfl ?_); refine goesL_ (some 33) rfl rfl Try.func13 (by kernel_rfl) rfl #[.agg #[.int .i64 a2_0, .int .i64 a2_1, .int .i64 a2_2]] rfl (by (try simp only [List.map_toArray, List.map_cons, List.map_nil]); first | done | rfl | (simp only [List.length_drop, List.length_take]; rfl)) ?_; (with_reducible refine (swarflaw49_theirs.calls a2_0 a2_1 a2_2 t263 t264 t265 _ A23.out).mono ?_); rintro e w29 ⟨rfl, hb⟩; refine ⟨_, rfl, ?_⟩; have n0_ := Aside0.mk (blk_below (g := gb258) (o := .cells #[.int .i64 a2_0, .int .i64 a2_1, .int .i64 a2_2] 23 (0, 0)) (by (with_reducible repeat (first | refine blk_drewN ?_ _ | refine blk_drew ?_ | refine blk_alloc ?_ _)); exact BK258.out) hb); have n1_ := Aside0.mk (below_step (by repeat (first | (with_reducible first | exact HB.out | apply below_alloc | apply pw_below_drewN | apply below_drew1 | refine below_set ?_ GE258.out) | exact HB.out)) hb); clear BK258; clear HB; have BK258 := n0_; have HB := n1_; clear n0_ n1_; (try clear hb); (try clear hb2); (try clear hk); (try clear hi)) | ((with_reducible refine gate_callee (f := 20) rfl ?_); refine goesL_ (some 34) rfl rfl Try.func20 (by kernel_rfl) rfl #[.int .i64 a0, .int .i64 a1, .agg #[.int .i64 t263, .int .i64 t264, .int .i64 t265]] rfl (by (try simp only [List.map_toArray, List.map_cons, List.map_nil]); first | done | rfl | (simp only [List.length_drop, List.length_take]; rfl)) ?_; (with_reducible refine (profile_Stop.calls kj3 a0 a1 t263 t264 t265 t266 t269 _ A24.out).mono ?_); rintro e w30 ⟨v267, rfl, ho0, hb⟩; refine ⟨_, rfl, ?_⟩; have n0_ := Aside0.mk (Kd.R_lower ho0 (below_size (by repeat (first | (with_reducible first | exact HB.out | apply below_alloc | apply pw_below_drewN | apply below_drew1 | refine below_set ?_ GE258.out) | exact HB.out)))); have n1_ := Aside0.mk (blk_below (g := gb258) (o := .cells #[.int .i64 a2_0, .int .i64 a2_1, .int .i64 a2_2] 23 (0, 0)) (by (with_reducible repeat (first | refine blk_drewN ?_ _ | refine blk_drew ?_ | refine blk_alloc ?_ _)); exact BK258.out) hb); have n2_ := Aside0.mk (below_step (by repeat (first | (with_reducible first | exact HB.out | apply below_alloc | apply pw_below_drewN | apply below_drew1 | refine below_set ?_ GE258.out) | exact HB.out)) hb); clear BK258; clear HB; have HO268 := n0_; have BK258 := n1_; have HB := n2_; clear n0_ n1_ n2_; (try clear hb); (try clear hb2); (try clear hk); (try clear hi); (try clear ho0)) | ((with_reducible refine gate_dst (N := 43) rfl ?_); refine Kd.R_lit (Kd.int .i64) _ 2 ?hg (N := 43) ?hd (xs := ([] : List Int)) (inner := []) (ok := fun _ => True) (okp := fun _ => True) ?hr ?hp (fun _ hk => hk) trivial (Below.refl _ _) (Nat.le_refl _) (by simp) ?_; (case hd => rfl); (case hg => rfl); (case hr => first | (go_simp; done) | (go_simp; rfl)); (case hp => exact (Reps.none _ _)); intro v271 w31 ho32 hb hg_ hnew_; clear hg_ hnew_; (first | rw [← Ny270.out] at ho32 | (simp only [Int.reduceToNat] at ho32; rw [← Ny270.out] at ho32)); have n0_ := Aside0.mk (Kd.R_elder' (by (with_reducible repeat (first | apply Kd.R_alloc | apply Kd.R_drewN | apply Kd.R_drew)); exact HO268.out) (Kd.R_base ho32) hb); have n1_ := Aside0.mk (Kd.R_lower (Kd.R_new' ho32 (Kd.R_lt (by (with_reducible repeat (first | apply Kd.R_alloc | apply Kd.R_drewN | apply Kd.R_drew)); exact HO268.out))) (below_size (by repeat (first | (with_reducible first | exact HB.out | apply below_alloc | apply pw_below_drewN | apply below_drew1 | refine below_set ?_ GE258.out) | exact HB.out)))); have n2_ := Aside0.mk (blk_below (g := gb258) (o := .cells #[.int .i64 a2_0, .int .i64 a2_1, .int .i64 a2_2] 23 (0, 0)) (by (with_reducible repeat (first | refine blk_drewN ?_ _ | refine blk_drew ?_ | refine blk_alloc ?_ _)); exact BK258.out) hb); have n3_ := Aside0.mk (below_step (by repeat (first | (with_reducible first | exact HB.out | apply below_alloc | apply pw_below_drewN | apply below_drew1 | refine below_set ?_ GE258.out) | exact HB.out)) hb); clear HO268; clear BK258; clear HB; have HO268 := n0_; have HO272 := n1_; have BK258 := n2_; have HB := n3_; clear n0_ n1_ n2_ n3_; clear hb ho32; obtain ⟨Ao34, co34, eo34⟩ := Kd.R_slice HO268.out; subst eo34) | ((with_reducible refine gate_builtin (b := .append) (xs := #[.tmp 43, .tmp 44]) rfl ?_); at_builtin; refine Kd.R_append_rows (Kd.int .i64) (w0 := w) w.heap.size rfl (.tmp 43) (.tmp 44) 34 2 (.int .i64 0) 8 rfl Try.underlying34 info2 rfl (by decide) (by omega) v271 y270 t266 _ _ _ (fun k_ => some k_ ≠ (.slice Ao34 t266.length co34 : Value).ownBlock) (fun _ => False) rfl rfl ?aO ?aR (fun _ _ h => h) (fun _ h => h.elim) ?aF ?aB ?aS ?aL ?_; (case aR => repeat (first | exact (Kd.R_reads' HO268.out).2.2 | (with_reducible refine Kd.C_alloc ?_ _) | (with_reducible refine Kd.C_drewN ?_ _) | (with_reducible refine Kd.C_drew ?_))); (case aB => exact (by repeat (first | (with_reducible first | exact HB.out | apply below_alloc | apply pw_below_drewN | apply below_drew1 | refine below_set ?_ GE258.out) | exact HB.out))); (case aF => exact (fun k_ hk => Kd.fresh' (Kd.R_lt (by (with_reducible repeat (first | apply Kd.R_alloc | apply Kd.R_drewN | apply Kd.R_drew)); exact HO268.out)) k_ hk)); (case aO => exact (by (with_reducible repeat (first | apply Kd.R_alloc | apply Kd.R_drewN | apply Kd.R_drew)); exact Kd.R_mono HO272.out (fun _ hk => hk.2))); (case aS => exact (below_size (by repeat (first | (with_reducible first | exact HB.out | apply below_alloc | apply pw_below_drewN | apply below_drew1 | refine below_set ?_ GE258.out) | exact HB.out)))); (case aL => have := LMc26.out; omega); intro v274 w33 ho hb hg hat; rw [← Ny273.out] at ho; have n0_ := Aside0.mk (blk_grown (g := gb258) (o := .cells #[.int .i64 a2_0, .int .i64 a2_1, .int .i64 a2_2] 23 (0, 0)) (by (with_reducible repeat (first | refine blk_drewN ?_ _ | refine blk_drew ?_ | refine blk_alloc ?_ _)); exact BK258.out) hg (Kd.R_ne HO272.out BK258.out (by decide))); have n1_ := Aside0.mk (Kd.R_after (ok := (fun _ => True)) (by (with_reducible repeat (first | apply Kd.R_alloc | apply Kd.R_drewN | apply Kd.R_drew)); exact HO268.out) hg hat); have n2_ := Aside0.mk (hb); have n3_ := Aside0.mk (ho); clear BK258; clear HO268; clear HB; clear HO272; have BK258 := n0_; have HO268 := n1_; have HB := n2_; have HO275 := n3_; clear n0_ n1_ n2_ n3_; clear ho hb hg hat) | ((with_reducible refine gate_dst (N := 46) rfl ?_); refine Kd.R_lit (Kd.int .i64) _ 2 ?hg (N := 46) ?hd (xs := ([0, 0] : List Int)) (inner := [.int .i64 0, .int .i64 0]) (ok := fun _ => True) (okp := fun _ => True) ?hr ?hp (fun _ hk => hk) trivial (Below.refl _ _) (Nat.le_refl _) (by simp) ?_; (case hd => rfl); (case hg => rfl); (case hr => first | (go_simp; done) | (go_simp; rfl)); (case hp => exact (Reps.one (show Kd.M (Kd.int .i64) _ _ _ 0 [.int .i64 0] from rfl) (Reps.one (show Kd.M (Kd.int .i64) _ _ _ 0 [.int .i64 0] from rfl) (Reps.none _ _)))); intro v277 w35 ho36 hb hg_ hnew_; clear hg_ hnew_; (first | rw [← Ny276.out] at ho36 | (simp only [Int.reduceToNat] at ho36; rw [← Ny276.out] at ho36)); have n0_ := Aside0.mk (Kd.R_elder' (by (with_reducible repeat (first | apply Kd.R_alloc | apply Kd.R_drewN | apply Kd.R_drew)); exact HO268.out) (Kd.R_base ho36) hb); have n1_ := Aside0.mk (Kd.R_elder' (by (with_reducible repeat (first | apply Kd.R_alloc | apply Kd.R_drewN | apply Kd.R_drew)); exact HO275.out) (Kd.R_base ho36) hb); have n2_ := Aside0.mk (Kd.R_lower (Kd.R_new' (Kd.R_new' ho36 (Kd.R_lt (by (with_reducible repeat (first | apply Kd.R_alloc | apply Kd.R_drewN | apply Kd.R_drew)); exact HO268.out))) (Kd.R_lt (by (with_reducible repeat (first | apply Kd.R_alloc | apply Kd.R_drewN | apply Kd.R_drew)); exact HO275.out))) (below_size (by repeat (first | (with_reducible first | exact HB.out | apply below_alloc | apply pw_below_drewN | apply below_drew1 | refine below_set ?_ GE258.out) | exact HB.out)))); have n3_ := Aside0.mk (blk_below (g := gb258) (o := .cells #[.int .i64 a2_0, .int .i64 a2_1, .int .i64 a2_2] 23 (0, 0)) (by (with_reducible repeat (first | refine blk_drewN ?_ _ | refine blk_drew ?_ | refine blk_alloc ?_ _)); exact BK258.out) hb); have n4_ := Aside0.mk (below_step (by repeat (first | (with_reducible first | exact HB.out | apply below_alloc | apply pw_below_drewN | apply below_drew1 | refine below_set ?_ GE258.out) | exact HB.out)) hb); clear HO268; clear HO275; clear BK258; clear HB; have HO268 := n0_; have HO275 := n1_; have HO278 := n2_; have BK258 := n3_; have HB := n4_; clear n0_ n1_ n2_ n3_ n4_; clear hb ho36; obtain ⟨Ao38, co38, eo38⟩ := Kd.R_slice HO278.out; subst eo38) | ((with_reducible refine gate_builtin (b := .append) (xs := #[.tmp 45, .tmp 46]) rfl ?_); at_builtin; refine Kd.R_append_rows (Kd.int .i64) (w0 := w) w.heap.size rfl (.tmp 45) (.tmp 46) 34 2 (.int .i64 0) 8 rfl Try.underlying34 info2 rfl (by decide) (by omega) v274 y273 y276 _ _ _ (fun k_ => some k_ ≠ (.slice Ao34 t266.length co34 : Value).ownBlock ∧ some k_ ≠ (.slice Ao38 y276.length co38 : Value).ownBlock) (fun _ => False) rfl rfl ?aO ?aR (fun _ _ h => h) (fun _ h => h.elim) ?aF ?aB ?aS ?aL ?_; (case aR => repeat (first | exact (Kd.R_reads' HO278.out).2.2 | (with_reducible refine Kd.C_alloc ?_ _) | (with_reducible refine Kd.C_drewN ?_ _) | (with_reducible refine Kd.C_drew ?_))); (case aB => exact (by repeat (first | (with_reducible first | exact HB.out | apply below_alloc | apply pw_below_drewN | apply below_drew1 | refine below_set ?_ GE258.out) | exact HB.out))); (case aF => exact (fun k_ hk => ⟨Kd.fresh' (Kd.R_lt (by (with_reducible repeat (first | apply Kd.R_alloc | apply Kd.R_drewN | apply Kd.R_drew)); exact HO268.out)) k_ hk, Kd.fresh' (Kd.R_lt (by (with_reducible repeat (first | apply Kd.R_alloc | apply Kd.R_drewN | apply Kd.R_drew)); exact HO278.out)) k_ hk⟩)); (case aO => exact (by (with_reducible repeat (first | apply Kd.R_alloc | apply Kd.R_drewN | apply Kd.R_drew)); exact HO275.out)); (case aS => exact (below_size (by repeat (first | (with_reducible first | exact HB.out | apply below_alloc | apply pw_below_drewN | apply below_drew1 | refine below_set ?_ GE258.out) | exact HB.out)))); (case aL => have := LMc27.out; omega); intro v280 w37 ho hb hg hat; rw [← Ny279.out] at ho; have n0_ := Aside0.mk (blk_grown (g := gb258) (o := .cells #[.int .i64 a2_0, .int .i64 a2_1, .int .i64 a2_2] 23 (0, 0)) (by (with_reducible repeat (first | refine blk_drewN ?_ _ | refine blk_drew ?_ | refine blk_alloc ?_ _)); exact BK258.out) hg (Kd.R_ne HO275.out BK258.out (by decide))); have n1_ := Aside0.mk (Kd.R_after (ok := (fun k_ => some k_ ≠ (.slice Ao38 y276.length co38 : Value).ownBlock)) (by (with_reducible repeat (first | apply Kd.R_alloc | apply Kd.R_drewN | apply Kd.R_drew)); exact Kd.R_mono HO268.out (fun _ hk => ⟨hk.2, hk.1.2⟩)) hg hat); have n2_ := Aside0.mk (Kd.R_after (ok := (fun k_ => some k_ ≠ (.slice Ao34 t266.length co34 : Value).ownBlock)) (by (with_reducible repeat (first | apply Kd.R_alloc | apply Kd.R_drewN | apply Kd.R_drew)); exact Kd.R_mono HO278.out (fun _ hk => ⟨hk.1.2, hk.2⟩)) hg hat); have n3_ := Aside0.mk (hb); have n4_ := Aside0.mk (ho); clear BK258; clear HO268; clear HO278; clear HB; clear HO275; have BK258 := n0_; have HO268 := n1_; have HO278 := n2_; have HB := n3_; have HO281 := n4_; clear n0_ n1_ n2_ n3_ n4_; clear ho hb hg hat; obtain ⟨Ao39, co39, eo39⟩ := Kd.R_slice HO281.out; subst eo39))
       go_loopg [9, 10, 49] kj3 (fun kq v9 v10 v49 w' => ∃ (x9_2 : Int) (x10_2 : Int) (x49_2 : Int), v9 = .int .i64 x9_2 ∧ v10 = .int .i64 x10_2 ∧ v49 = .int .i64 x49_2 ∧ Aside0 (swarflaw49_ProfileRest.l0 kq x9_2 x10_2 y279 (y279.length : Int) x49_2 a2_0 a2_1 a2_2 = some r) ∧ Aside0 (kq ≤ kj3) ∧ Aside0 (Kd.R (Kd.int .i64) 2 w' w.heap.size (fun _ => True) (.slice Ao39 y279.length co39) y279) ∧ Aside0 (w'.heap[gb258]? = some (.cells #[.int .i64 a2_0, .int .i64 a2_1, .int .i64 a2_2] 23 (0, 0))) ∧ Aside0 (Below w.heap.size w w'))
       case atStart => exact ⟨(a1), (wrap64 (a1 - a0)), (0), (by first | rfl | (simp; done) | (simp [*]; done)), (by first | rfl | (simp; done) | (simp [*]; done)), (by first | rfl | (simp; done) | (simp [*]; done)), H', ⟨Nat.le_refl _⟩, ⟨by (with_reducible repeat (first | apply Kd.R_alloc | apply Kd.R_drewN | apply Kd.R_drew)); exact Kd.R_mono HO281.out (fun _ hk => trivial)⟩, ⟨by (with_reducible repeat (first | refine blk_drewN ?_ _ | refine blk_drew ?_ | refine blk_alloc ?_ _)); exact BK258.out⟩, ⟨by repeat (first | (with_reducible first | exact HB.out | apply below_alloc | apply pw_below_drewN | apply below_drew1 | refine below_set ?_ GE258.out) | exact HB.out)⟩⟩
       case round =>
        clear H'
        try clear c1
        try clear c2
        try clear p2
        try clear c6
        try clear p6
        try clear c7
        try clear c9
        try clear c11
        try clear c13
        try clear c20
        try clear c25
        try clear c25b0
        try clear c25b1
        try clear c26
        try clear c27
        try clear hcz12_0
        try clear hcz12_1
        try clear hcz12_2
        try clear hcz14_0
        try clear hcz14_1
        try clear hcz14_2
        try clear hcz17_0
        try clear hcz17_1
        try clear hcz17_2
        try clear hcz28_0
        try clear hcz28_1
        try clear hcz28_2
        try clear hfz12_0
        try clear hfz12_1
        try clear hfz12_2
        try clear hfz14_0
        try clear hfz14_1
        try clear hfz14_2
        try clear hfz17_0
        try clear hfz17_1
        try clear hfz17_2
        try clear hfz28_0
        try clear hfz28_1
        try clear hfz28_2
        try clear p2
        obtain ⟨x9_2, x10_2, x49_2, rfl, rfl, rfl, HA, HK2, HO_47, BK258, HB⟩ := hrel
        cases gk with
        | zero => exact absurd HA.out (by simp [swarflaw49_ProfileRest.l0])
        | succ k2 =>
         have H := HA.out
         clear HA
         simp only [swarflaw49_ProfileRest.l0] at H
         by_cases c40 : x49_2 < (y279.length : Int)
         ·rw [if_pos c40] at H
          have c40b0 : decide (x49_2 < (y279.length : Int)) = true := decide_eq_true c40
          clear c40
          by_cases c41 : 0 ≤ x49_2
          ·rw [if_pos c41] at H
           have c41b0 : decide (0 ≤ x49_2) = true := decide_eq_true c41
           clear c41
           by_cases c42 : x49_2 < (y279.length : Int)
           ·rw [if_pos c42] at H
            have c42b0 : decide (x49_2 < (y279.length : Int)) = true := decide_eq_true c42
            clear c42
            by_cases c43 : (rd y279 x49_2) < 0
            ·rw [if_pos c43] at H
             have c43b0 : decide ((rd y279 x49_2) < 0) = true := decide_eq_true c43
             clear c43
             obtain rfl := Option.some.inj H
             have p282 : 0 ≤ (x49_2 : Int) := of_decide_eq_true (by first | (with_reducible assumption) | assumption)
             have q282 : x49_2 < (y279.length : Int) := of_decide_eq_true (by first | (with_reducible assumption) | assumption)
             obtain ⟨ad282, e282, hx282_0⟩ := Kd.at_int (Kd.R_reads' HO_47.out).2.2 x49_2 p282 q282
             cases e282
             replace p282 := eq_true p282
             replace q282 := eq_true q282
             go_wp2
             go_ret
             exact ⟨by first | rfl | (simp [errW_none, errW_some] <;> rfl) | (simp [*, errW_none, errW_some] <;> rfl), by repeat (first | (with_reducible first | exact HB.out | apply below_alloc | apply pw_below_drewN | apply below_drew1 | refine below_set ?_ GE258.out) | exact HB.out)⟩
            ·rw [if_neg c43] at H
             have c43b0 : decide ((rd y279 x49_2) < 0) = false := decide_eq_false c43
             clear c43
             by_cases c44 : (rd y279 x49_2) > a2_0
             ·rw [if_pos c44] at H
              have c44b0 : decide (a2_0 < (rd y279 x49_2)) = true := decide_eq_true c44
              clear c44
              obtain rfl := Option.some.inj H
              have p282 : 0 ≤ (x49_2 : Int) := of_decide_eq_true (by first | (with_reducible assumption) | assumption)
              have q282 : x49_2 < (y279.length : Int) := of_decide_eq_true (by first | (with_reducible assumption) | assumption)
              obtain ⟨ad282, e282, hx282_0⟩ := Kd.at_int (Kd.R_reads' HO_47.out).2.2 x49_2 p282 q282
              cases e282
              replace p282 := eq_true p282
              replace q282 := eq_true q282
              have hcz45_0 : wr.cell? ⟨gb258, 0, none⟩ = some (.int .i64 a2_0) := (blk_cell BK258.out 0).trans rfl
              have hcz45_1 : wr.cell? ⟨gb258, 1, none⟩ = some (.int .i64 a2_1) := (blk_cell BK258.out 1).trans rfl
              have hcz45_2 : wr.cell? ⟨gb258, 2, none⟩ = some (.int .i64 a2_2) := (blk_cell BK258.out 2).trans rfl
              have hfz45_0 := blk_frozen BK258.out 0
              have hfz45_1 := blk_frozen BK258.out 1
              have hfz45_2 := blk_frozen BK258.out 2
              go_wp2
              go_ret
              exact ⟨by first | rfl | (simp [errW_none, errW_some] <;> rfl) | (simp [*, errW_none, errW_some] <;> rfl), by repeat (first | (with_reducible first | exact HB.out | apply below_alloc | apply pw_below_drewN | apply below_drew1 | refine below_set ?_ GE258.out) | exact HB.out)⟩
             ·rw [if_neg c44] at H
              have c44b0 : decide (a2_0 < (rd y279 x49_2)) = false := decide_eq_false c44
              clear c44
              by_cases c46 : (wrap64 ((rd y279 x49_2) - x9_2)) > a2_1
              ·rw [if_pos c46] at H
               have c46b0 : decide (a2_1 < (wrap64 ((rd y279 x49_2) - x9_2))) = true := decide_eq_true c46
               clear c46
               obtain rfl := Option.some.inj H
               have p282 : 0 ≤ (x49_2 : Int) := of_decide_eq_true (by first | (with_reducible assumption) | assumption)
               have q282 : x49_2 < (y279.length : Int) := of_decide_eq_true (by first | (with_reducible assumption) | assumption)
               obtain ⟨ad282, e282, hx282_0⟩ := Kd.at_int (Kd.R_reads' HO_47.out).2.2 x49_2 p282 q282
               cases e282
               replace p282 := eq_true p282
               replace q282 := eq_true q282
               have hcz47_0 : wr.cell? ⟨gb258, 0, none⟩ = some (.int .i64 a2_0) := (blk_cell BK258.out 0).trans rfl
               have hcz47_1 : wr.cell? ⟨gb258, 1, none⟩ = some (.int .i64 a2_1) := (blk_cell BK258.out 1).trans rfl
               have hcz47_2 : wr.cell? ⟨gb258, 2, none⟩ = some (.int .i64 a2_2) := (blk_cell BK258.out 2).trans rfl
               have hfz47_0 := blk_frozen BK258.out 0
               have hfz47_1 := blk_frozen BK258.out 1
               have hfz47_2 := blk_frozen BK258.out 2
               go_wp2
               go_ret
               exact ⟨by first | rfl | (simp [errW_none, errW_some] <;> rfl) | (simp [*, errW_none, errW_some] <;> rfl), by repeat (first | (with_reducible first | exact HB.out | apply below_alloc | apply pw_below_drewN | apply below_drew1 | refine below_set ?_ GE258.out) | exact HB.out)⟩
              ·rw [if_neg c46] at H
               have c46b0 : decide (a2_1 < (wrap64 ((rd y279 x49_2) - x9_2))) = false := decide_eq_false c46
               clear c46
               by_cases c48 : (wrap64 ((rd y279 x49_2) - x9_2)) < (wrap64 (-a2_1))
               ·rw [if_pos c48] at H
                have c48b0 : decide ((wrap64 ((rd y279 x49_2) - x9_2)) < (wrap64 (-a2_1))) = true := decide_eq_true c48
                clear c48
                obtain rfl := Option.some.inj H
                have p282 : 0 ≤ (x49_2 : Int) := of_decide_eq_true (by first | (with_reducible assumption) | assumption)
                have q282 : x49_2 < (y279.length : Int) := of_decide_eq_true (by first | (with_reducible assumption) | assumption)
                obtain ⟨ad282, e282, hx282_0⟩ := Kd.at_int (Kd.R_reads' HO_47.out).2.2 x49_2 p282 q282
                cases e282
                replace p282 := eq_true p282
                replace q282 := eq_true q282
                have hcz49_0 : wr.cell? ⟨gb258, 0, none⟩ = some (.int .i64 a2_0) := (blk_cell BK258.out 0).trans rfl
                have hcz49_1 : wr.cell? ⟨gb258, 1, none⟩ = some (.int .i64 a2_1) := (blk_cell BK258.out 1).trans rfl
                have hcz49_2 : wr.cell? ⟨gb258, 2, none⟩ = some (.int .i64 a2_2) := (blk_cell BK258.out 2).trans rfl
                have hfz49_0 := blk_frozen BK258.out 0
                have hfz49_1 := blk_frozen BK258.out 1
                have hfz49_2 := blk_frozen BK258.out 2
                go_wp2
                go_ret
                exact ⟨by first | rfl | (simp [errW_none, errW_some] <;> rfl) | (simp [*, errW_none, errW_some] <;> rfl), by repeat (first | (with_reducible first | exact HB.out | apply below_alloc | apply pw_below_drewN | apply below_drew1 | refine below_set ?_ GE258.out) | exact HB.out)⟩
               ·rw [if_neg c48] at H
                have c48b0 : decide ((wrap64 ((rd y279 x49_2) - x9_2)) < (wrap64 (-a2_1))) = false := decide_eq_false c48
                clear c48
                by_cases c50 : (wrap64 ((wrap64 ((rd y279 x49_2) - x9_2)) - x10_2)) > a2_2
                ·rw [if_pos c50] at H
                 have c50b0 : decide (a2_2 < (wrap64 ((wrap64 ((rd y279 x49_2) - x9_2)) - x10_2))) = true := decide_eq_true c50
                 clear c50
                 obtain rfl := Option.some.inj H
                 have p282 : 0 ≤ (x49_2 : Int) := of_decide_eq_true (by first | (with_reducible assumption) | assumption)
                 have q282 : x49_2 < (y279.length : Int) := of_decide_eq_true (by first | (with_reducible assumption) | assumption)
                 obtain ⟨ad282, e282, hx282_0⟩ := Kd.at_int (Kd.R_reads' HO_47.out).2.2 x49_2 p282 q282
                 cases e282
                 replace p282 := eq_true p282
                 replace q282 := eq_true q282
                 have hcz51_0 : wr.cell? ⟨gb258, 0, none⟩ = some (.int .i64 a2_0) := (blk_cell BK258.out 0).trans rfl
                 have hcz51_1 : wr.cell? ⟨gb258, 1, none⟩ = some (.int .i64 a2_1) := (blk_cell BK258.out 1).trans rfl
                 have hcz51_2 : wr.cell? ⟨gb258, 2, none⟩ = some (.int .i64 a2_2) := (blk_cell BK258.out 2).trans rfl
                 have hfz51_0 := blk_frozen BK258.out 0
                 have hfz51_1 := blk_frozen BK258.out 1
                 have hfz51_2 := blk_frozen BK258.out 2
                 go_wp2
                 go_ret
                 exact ⟨by first | rfl | (simp [errW_none, errW_some] <;> rfl) | (simp [*, errW_none, errW_some] <;> rfl), by repeat (first | (with_reducible first | exact HB.out | apply below_alloc | apply pw_below_drewN | apply below_drew1 | refine below_set ?_ GE258.out) | exact HB.out)⟩
                ·rw [if_neg c50] at H
                 have c50b0 : decide (a2_2 < (wrap64 ((wrap64 ((rd y279 x49_2) - x9_2)) - x10_2))) = false := decide_eq_false c50
                 clear c50
                 by_cases c52 : (wrap64 (x10_2 - (wrap64 ((rd y279 x49_2) - x9_2)))) > a2_2
                 ·rw [if_pos c52] at H
                  have c52b0 : decide (a2_2 < (wrap64 (x10_2 - (wrap64 ((rd y279 x49_2) - x9_2))))) = true := decide_eq_true c52
                  clear c52
                  obtain rfl := Option.some.inj H
                  have p282 : 0 ≤ (x49_2 : Int) := of_decide_eq_true (by first | (with_reducible assumption) | assumption)
                  have q282 : x49_2 < (y279.length : Int) := of_decide_eq_true (by first | (with_reducible assumption) | assumption)
                  obtain ⟨ad282, e282, hx282_0⟩ := Kd.at_int (Kd.R_reads' HO_47.out).2.2 x49_2 p282 q282
                  cases e282
                  replace p282 := eq_true p282
                  replace q282 := eq_true q282
                  have hcz53_0 : wr.cell? ⟨gb258, 0, none⟩ = some (.int .i64 a2_0) := (blk_cell BK258.out 0).trans rfl
                  have hcz53_1 : wr.cell? ⟨gb258, 1, none⟩ = some (.int .i64 a2_1) := (blk_cell BK258.out 1).trans rfl
                  have hcz53_2 : wr.cell? ⟨gb258, 2, none⟩ = some (.int .i64 a2_2) := (blk_cell BK258.out 2).trans rfl
                  have hfz53_0 := blk_frozen BK258.out 0
                  have hfz53_1 := blk_frozen BK258.out 1
                  have hfz53_2 := blk_frozen BK258.out 2
                  go_wp2
                  go_ret
                  exact ⟨by first | rfl | (simp [errW_none, errW_some] <;> rfl) | (simp [*, errW_none, errW_some] <;> rfl), by repeat (first | (with_reducible first | exact HB.out | apply below_alloc | apply pw_below_drewN | apply below_drew1 | refine below_set ?_ GE258.out) | exact HB.out)⟩
                 ·rw [if_neg c52] at H
                  have c52b0 : decide (a2_2 < (wrap64 (x10_2 - (wrap64 ((rd y279 x49_2) - x9_2))))) = false := decide_eq_false c52
                  clear c52
                  have H' := Aside0.mk H
                  clear H
                  have p282 : 0 ≤ (x49_2 : Int) := of_decide_eq_true (by first | (with_reducible assumption) | assumption)
                  have q282 : x49_2 < (y279.length : Int) := of_decide_eq_true (by first | (with_reducible assumption) | assumption)
                  obtain ⟨ad282, e282, hx282_0⟩ := Kd.at_int (Kd.R_reads' HO_47.out).2.2 x49_2 p282 q282
                  cases e282
                  replace p282 := eq_true p282
                  replace q282 := eq_true q282
                  have hcz54_0 : wr.cell? ⟨gb258, 0, none⟩ = some (.int .i64 a2_0) := (blk_cell BK258.out 0).trans rfl
                  have hcz54_1 : wr.cell? ⟨gb258, 1, none⟩ = some (.int .i64 a2_1) := (blk_cell BK258.out 1).trans rfl
                  have hcz54_2 : wr.cell? ⟨gb258, 2, none⟩ = some (.int .i64 a2_2) := (blk_cell BK258.out 2).trans rfl
                  have hfz54_0 := blk_frozen BK258.out 0
                  have hfz54_1 := blk_frozen BK258.out 1
                  have hfz54_2 := blk_frozen BK258.out 2
                  go_wp2
                  go_roundg k2
                  case measure => have := HJ3.out; have := HK2.out; omega
                  case rel => exact ⟨(rd y279 x49_2), (wrap64 ((rd y279 x49_2) - x9_2)), (wrap64 (x49_2 + 1)), (by first | rfl | (simp; done) | (simp [*]; done)), (by first | rfl | (simp; done) | (simp [*]; done)), (by first | rfl | (simp; done) | (simp [*]; done)), H', ⟨by have := HJ3.out; have := HK2.out; omega⟩, ⟨by (with_reducible repeat (first | apply Kd.R_alloc | apply Kd.R_drewN | apply Kd.R_drew)); exact HO_47.out⟩, ⟨by (with_reducible repeat (first | refine blk_drewN ?_ _ | refine blk_drew ?_ | refine blk_alloc ?_ _)); exact BK258.out⟩, ⟨by repeat (first | (with_reducible first | exact HB.out | apply below_alloc | apply pw_below_drewN | apply below_drew1 | refine below_set ?_ GE258.out) | exact HB.out)⟩⟩
           ·rw [if_neg c42] at H
            exact absurd H (by simp)
          ·rw [if_neg c41] at H
           exact absurd H (by simp)
         ·rw [if_neg c40] at H
          have c40b0 : decide (x49_2 < (y279.length : Int)) = false := decide_eq_false c40
          clear c40
          obtain rfl := Option.some.inj H
          go_wp2
          go_ret
          exact ⟨by first | rfl | (simp [errW_none, errW_some] <;> rfl) | (simp [*, errW_none, errW_some] <;> rfl), by repeat (first | (with_reducible first | exact HB.out | apply below_alloc | apply pw_below_drewN | apply below_drew1 | refine below_set ?_ GE258.out) | exact HB.out)⟩
      ·rw [if_neg c27] at H
       exact absurd H (by simp)
     ·rw [if_neg c26] at H
      exact absurd H (by simp)
    ·rw [if_neg c25] at H
     have c25b0 : (t269 == 0) = false := beq_eq_false_iff_ne.mpr c25
     have c25b1 : (t269 != 0) = true := bne_iff_ne.mpr c25
     obtain rfl := Option.some.inj H
     have hcz55_0 : wc.cell? ⟨gb258, 0, none⟩ = some (.int .i64 a2_0) := (blk_cell BK258.out 0).trans rfl
     have hcz55_1 : wc.cell? ⟨gb258, 1, none⟩ = some (.int .i64 a2_1) := (blk_cell BK258.out 1).trans rfl
     have hcz55_2 : wc.cell? ⟨gb258, 2, none⟩ = some (.int .i64 a2_2) := (blk_cell BK258.out 2).trans rfl
     have hfz55_0 := blk_frozen BK258.out 0
     have hfz55_1 := blk_frozen BK258.out 1
     have hfz55_2 := blk_frozen BK258.out 2
     go_wp2_with (first | ((with_reducible refine gate_callee (f := 13) rfl ?_); refine goesL_ (some 33) rfl rfl Try.func13 (by kernel_rfl) rfl #[.agg #[.int .i64 a2_0, .int .i64 a2_1, .int .i64 a2_2]] rfl (by (try simp only [List.map_toArray, List.map_cons, List.map_nil]); first | done | rfl | (simp only [List.length_drop, List.length_take]; rfl)) ?_; (with_reducible refine (swarflaw49_theirs.calls a2_0 a2_1 a2_2 t263 t264 t265 _ A23.out).mono ?_); rintro e w56 ⟨rfl, hb⟩; refine ⟨_, rfl, ?_⟩; have n0_ := Aside0.mk (blk_below (g := gb258) (o := .cells #[.int .i64 a2_0, .int .i64 a2_1, .int .i64 a2_2] 23 (0, 0)) (by (with_reducible repeat (first | refine blk_drewN ?_ _ | refine blk_drew ?_ | refine blk_alloc ?_ _)); exact BK258.out) hb); have n1_ := Aside0.mk (below_step (by repeat (first | (with_reducible first | exact HB.out | apply below_alloc | apply pw_below_drewN | apply below_drew1 | refine below_set ?_ GE258.out) | exact HB.out)) hb); clear BK258; clear HB; have BK258 := n0_; have HB := n1_; clear n0_ n1_; (try clear hb); (try clear hb2); (try clear hk); (try clear hi)) | ((with_reducible refine gate_callee (f := 20) rfl ?_); refine goesL_ (some 34) rfl rfl Try.func20 (by kernel_rfl) rfl #[.int .i64 a0, .int .i64 a1, .agg #[.int .i64 t263, .int .i64 t264, .int .i64 t265]] rfl (by (try simp only [List.map_toArray, List.map_cons, List.map_nil]); first | done | rfl | (simp only [List.length_drop, List.length_take]; rfl)) ?_; (with_reducible refine (profile_Stop.calls kj3 a0 a1 t263 t264 t265 t266 t269 _ A24.out).mono ?_); rintro e w57 ⟨v267, rfl, ho0, hb⟩; refine ⟨_, rfl, ?_⟩; have n0_ := Aside0.mk (Kd.R_lower ho0 (below_size (by repeat (first | (with_reducible first | exact HB.out | apply below_alloc | apply pw_below_drewN | apply below_drew1 | refine below_set ?_ GE258.out) | exact HB.out)))); have n1_ := Aside0.mk (blk_below (g := gb258) (o := .cells #[.int .i64 a2_0, .int .i64 a2_1, .int .i64 a2_2] 23 (0, 0)) (by (with_reducible repeat (first | refine blk_drewN ?_ _ | refine blk_drew ?_ | refine blk_alloc ?_ _)); exact BK258.out) hb); have n2_ := Aside0.mk (below_step (by repeat (first | (with_reducible first | exact HB.out | apply below_alloc | apply pw_below_drewN | apply below_drew1 | refine below_set ?_ GE258.out) | exact HB.out)) hb); clear BK258; clear HB; have HO268 := n0_; have BK258 := n1_; have HB := n2_; clear n0_ n1_ n2_; (try clear hb); (try clear hb2); (try clear hk); (try clear hi); (try clear ho0)))
     go_ret
     exact ⟨by first | rfl | (simp [errW_none, errW_some] <;> rfl) | (simp [*, errW_none, errW_some] <;> rfl), by repeat (first | (with_reducible first | exact HB.out | apply below_alloc | apply pw_below_drewN | apply below_drew1 | refine below_set ?_ GE258.out) | exact HB.out)⟩
end Go.Proofs.Ytdfilkofhgmakaa.F
