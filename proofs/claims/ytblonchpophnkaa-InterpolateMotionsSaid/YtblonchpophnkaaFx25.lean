-- The machine side of a proof, written by a program of the session out of Lean's print of the loaded functions. Lean checks it.
import Derived.Test.YtblonchpophnkaaWc
import Derived.Test.YtblonchpophnkaaFx0
import Derived.Test.YtblonchpophnkaaFx14
import Derived.Test.YtblonchpophnkaaFx19
import Derived.Test.YtblonchpophnkaaFx24
namespace Go.Proofs.Ytblonchpophnkaa.F
open Go.RowKit Go.Proofs.YtblonchpophnkaaW.PrintWords Go.Proofs.YtblonchpophnkaaW.PrintLast Go.Proofs.YtblonchpophnkaaW.PrintMore
attribute [local go_sem] max2_int min2_int max_two min_two max_three min_three max_four min_four   -- for this text's walks alone
set_option linter.unusedVariables false
set_option linter.unusedSimpArgs false
def swarfref33_Few.l0 : Nat → List (S27) → Int → Int → Int → Int → Option (Bool)
 | 0, _, _, _, _, _ => none
 | k + 1, x1, x7, x231000, x231001, x231002 => if x7 < (x1.length : Int) then (if 0 ≤ x7 then ((swarfref33_Valid.f k x231000 x231001 x231002 ((rd_T27 x1 x7).f0) ((rd_T27 x1 x7).f1.f0) ((rd_T27 x1 x7).f1.f1) ((rd_T27 x1 x7).f1.f2) ((rd_T27 x1 x7).f2.f0) ((rd_T27 x1 x7).f2.f1) ((rd_T27 x1 x7).f3)).bind fun t232 => (if t232 = 0 then ((swarfref33_arc.f ((rd_T27 x1 x7).f0) ((rd_T27 x1 x7).f1.f0) ((rd_T27 x1 x7).f1.f1) ((rd_T27 x1 x7).f1.f2) ((rd_T27 x1 x7).f2.f0) ((rd_T27 x1 x7).f2.f1) ((rd_T27 x1 x7).f3)).bind fun t234 => (if t234 = true then ((swarfref33_Radius.f x231000 x231001 x231002 ((rd_T27 x1 x7).f0) ((rd_T27 x1 x7).f1.f0) ((rd_T27 x1 x7).f1.f1) ((rd_T27 x1 x7).f1.f2) ((rd_T27 x1 x7).f2.f0) ((rd_T27 x1 x7).f2.f1) ((rd_T27 x1 x7).f3)).bind fun t236 => (if t236 > 50000 then (some false) else (swarfref33_Few.l0 k x1 (wrap64 (x7 + 1)) ((rd_T27 x1 x7).f1.f0) ((rd_T27 x1 x7).f1.f1) ((rd_T27 x1 x7).f1.f2)))) else (swarfref33_Few.l0 k x1 (wrap64 (x7 + 1)) ((rd_T27 x1 x7).f1.f0) ((rd_T27 x1 x7).f1.f1) ((rd_T27 x1 x7).f1.f2)))) else (some true))) else (none)) else (some true)
def swarfref33_Few.f (k : Nat) (a0_0 : Int) (a0_1 : Int) (a0_2 : Int) (l1 : List (S27)) (a2 : Int) : Option (Bool) := if (l1.length : Int) > a2 then (some false) else (swarfref33_Few.l0 k l1 0 a0_0 a0_1 a0_2)
theorem swarfref33_Few.mono_l : ∀ k, (∀ y0 y1 y2 y3 y4, LeO (swarfref33_Few.l0 k y0 y1 y2 y3 y4) (swarfref33_Few.l0 (k + 1) y0 y1 y2 y3 y4))
 | 0 => fun _ _ _ _ _ r h => by simp [swarfref33_Few.l0] at h
 | k + 1 => by
  have ih0 := swarfref33_Few.mono_l k
  ·intro y0 y1 y2 y3 y4
   unfold swarfref33_Few.l0
   repeat' first
   | (with_reducible exact ih0 _ _ _ _ _)
   | (with_reducible exact swarfref33_Valid.mono _ _ _ _ _ _ _ _ _ _ _)
   | (with_reducible exact LeO.refl _)
   | (with_reducible exact LeO.none _)
   | (with_reducible refine LeO.ite ?_ ?_)
   | (with_reducible refine LeO.bind ?_ (fun _ => ?_))
   | exact ih0 _ _ _ _ _
   | exact swarfref33_Valid.mono _ _ _ _ _ _ _ _ _ _ _
   | exact LeO.none _
   | refine LeO.ite ?_ ?_
   | refine LeO.bind ?_ (fun _ => ?_)
theorem swarfref33_Few.mono : ∀ a0 a1 a2 a3 a4 k, LeO (swarfref33_Few.f k a0 a1 a2 a3 a4) (swarfref33_Few.f (k + 1) a0 a1 a2 a3 a4) := by
 intro a0 a1 a2 a3 a4 k
 have ih0 := swarfref33_Few.mono_l k
 unfold swarfref33_Few.f
 repeat' first
   | (with_reducible exact ih0 _ _ _ _ _)
   | (with_reducible exact swarfref33_Valid.mono _ _ _ _ _ _ _ _ _ _ _)
   | (with_reducible exact LeO.refl _)
   | (with_reducible exact LeO.none _)
   | (with_reducible refine LeO.ite ?_ ?_)
   | (with_reducible refine LeO.bind ?_ (fun _ => ?_))
   | exact ih0 _ _ _ _ _
   | exact swarfref33_Valid.mono _ _ _ _ _ _ _ _ _ _ _
   | exact LeO.none _
   | refine LeO.ite ?_ ?_
   | refine LeO.bind ?_ (fun _ => ?_)
def swarfref33_Few.T8 : Bool × List (List Nat × List Nat) := (true, [([], []), ([], []), ([0, 1], [0, 1]), ([2], [2]), ([3], [3]), ([4, 4], [4]), ([5], [5]), ([5], [5]), ([5], [5]), ([7, 8, 5], [5, 7, 8]), ([9, 5], [5, 9]), ([6, 10, 5, 5], [5, 6, 10]), ([11, 5], [5, 11]), ([5, 12], [5, 12])])
def swarfref33_Few.B8 : List Nat := [0, 0, 3, 7, 15, 31, 63, 63, 63, 447, 959, 2047, 4095, 8191]
theorem swarfref33_Few.tab8 : rtab .any (opsOf Try.f17 8) = swarfref33_Few.T8 := by kernel_rfl
theorem swarfref33_Few.bits8 : waitsOk swarfref33_Few.T8.2 swarfref33_Few.B8 = true := by kernel_rfl
set_option maxHeartbeats 8000000 in
set_option maxRecDepth 100000 in
theorem swarfref33_Few.calls (k : Nat) (a0_0 : Int) (a0_1 : Int) (a0_2 : Int) (A1 : Option Addr) (c1 : Nat) (l1 : List (S27)) (a2 : Int) (r : Bool) (w : World) (hr1 : Kd.C k27 w A1 l1.length l1) (hc1 : l1.length ≤ c1) (h : swarfref33_Few.f k a0_0 a0_1 a0_2 l1 a2 = some r) :
  Calls Try.prog 17 #[.agg #[.int .i64 a0_0, .int .i64 a0_1, .int .i64 a0_2], .slice A1 l1.length c1, .int .i64 a2] w fun e w' => e = .returned (.bool r) ∧ Below w.heap.size w w' := by
 have hu23 := Try.underlying23
 have hu27 := Try.underlying27
 have HR1 := Aside0.mk hr1
 have HC1 := Aside0.mk hc1
 clear hr1 hc1
 have HB := Aside0.mk (Below.refl w.heap.size w)
 have H : (if (l1.length : Int) > a2 then (some false) else (swarfref33_Few.l0 k l1 0 a0_0 a0_1 a0_2)) = some r := h
 clear h
 by_cases c4 : (l1.length : Int) > a2
 ·rw [if_pos c4] at H
  have c4b0 : decide (a2 < (l1.length : Int)) = true := decide_eq_true c4
  clear c4
  obtain rfl := Option.some.inj H
  go_enter Try.func17, Try.ntmps17
  go_wp2_with (first | ((with_reducible refine gate_dst (N := 3) rfl ?_); refine box_event ?hg (N := 3) ?hd (cs := #[.int .i64 a0_0, .int .i64 a0_1, .int .i64 a0_2]) (t := 23) ?hr ?_; (case hd => rfl); (case hg => rfl); (case hr => first | (go_simp; done) | (go_simp; rfl)); intro gb230 hg w5 hbox hb; have n0_ := Aside0.mk (below_step (by first | exact HB.out | exact pw_below_drewN HB.out _) hb); have n1_ := Aside0.mk (hbox); have n2_ := Aside0.mk ((by rw [hg]; exact (below_size (by first | exact HB.out | exact pw_below_drewN HB.out _)) : w.heap.size ≤ gb230)); have n3_ := Aside0.mk ((by rw [hg]; exact (below_size (by first | exact HB.out | exact pw_below_drewN HB.out _)) : w.heap.size ≤ gb230)); clear HB; have HB := n0_; have BK230 := n1_; have GW230 := n2_; have GE230 := n3_; clear n0_ n1_ n2_ n3_; clear hb hbox hg))
  go_ret
  exact ⟨by first | rfl | (simp [errW_none, errW_some] <;> rfl) | (simp [*, errW_none, errW_some] <;> rfl), by repeat (first | (with_reducible first | exact HB.out | apply below_alloc | apply pw_below_drewN | apply below_drew1 | refine below_set ?_ GE230.out) | exact HB.out)⟩
 ·rw [if_neg c4] at H
  have c4b0 : decide (a2 < (l1.length : Int)) = false := decide_eq_false c4
  clear c4
  have H' := Aside0.mk H
  clear H
  go_enter Try.func17, Try.ntmps17
  go_wp2_with (first | ((with_reducible refine gate_dst (N := 3) rfl ?_); refine box_event ?hg (N := 3) ?hd (cs := #[.int .i64 a0_0, .int .i64 a0_1, .int .i64 a0_2]) (t := 23) ?hr ?_; (case hd => rfl); (case hg => rfl); (case hr => first | (go_simp; done) | (go_simp; rfl)); intro gb230 hg w6 hbox hb; have n0_ := Aside0.mk (below_step (by first | exact HB.out | exact pw_below_drewN HB.out _) hb); have n1_ := Aside0.mk (hbox); have n2_ := Aside0.mk ((by rw [hg]; exact (below_size (by first | exact HB.out | exact pw_below_drewN HB.out _)) : w.heap.size ≤ gb230)); have n3_ := Aside0.mk ((by rw [hg]; exact (below_size (by first | exact HB.out | exact pw_below_drewN HB.out _)) : w.heap.size ≤ gb230)); clear HB; have HB := n0_; have BK230 := n1_; have GW230 := n2_; have GE230 := n3_; clear n0_ n1_ n2_ n3_; clear hb hbox hg))
  go_loopg [7] k (fun kq v7 w' => ∃ (x7_1 : Int) (x231000_1 : Int) (x231001_1 : Int) (x231002_1 : Int), v7 = .int .i64 x7_1 ∧ Aside0 (swarfref33_Few.l0 kq l1 x7_1 x231000_1 x231001_1 x231002_1 = some r) ∧ Aside0 (kq ≤ k) ∧ Aside0 (w'.heap[gb230]? = some (.cells #[.int .i64 x231000_1, .int .i64 x231001_1, .int .i64 x231002_1] 23 (0, 0))) ∧ Aside0 (Below w.heap.size w w'))
  case atStart => exact ⟨(0), (a0_0), (a0_1), (a0_2), (by first | rfl | (simp; done) | (simp [*]; done)), H', ⟨Nat.le_refl _⟩, ⟨by (with_reducible repeat (first | refine blk_drewN ?_ _ | refine blk_drew ?_ | refine blk_alloc ?_ _)); exact BK230.out⟩, ⟨by repeat (first | (with_reducible first | exact HB.out | apply below_alloc | apply pw_below_drewN | apply below_drew1 | refine below_set ?_ GE230.out) | exact HB.out)⟩⟩
  case round =>
   clear H'
   try clear c1
   try clear p2
   try clear c4
   try clear c4b0
   obtain ⟨x7_1, x231000_1, x231001_1, x231002_1, rfl, HA, HK1, BK230, HB⟩ := hrel
   cases gk with
   | zero => exact absurd HA.out (by simp [swarfref33_Few.l0])
   | succ k1 =>
    have H := HA.out
    clear HA
    simp only [swarfref33_Few.l0] at H
    by_cases c7 : x7_1 < (l1.length : Int)
    ·rw [if_pos c7] at H
     have c7b0 : decide (x7_1 < (l1.length : Int)) = true := decide_eq_true c7
     clear c7
     by_cases c8 : 0 ≤ x7_1
     ·rw [if_pos c8] at H
      have c8b0 : decide (0 ≤ x7_1) = true := decide_eq_true c8
      clear c8
      replace H := Option.bind_eq_some_iff.mp H
      obtain ⟨t232, A90, H⟩ := H
      replace H : (if t232 = 0 then ((swarfref33_arc.f ((rd_T27 l1 x7_1).f0) ((rd_T27 l1 x7_1).f1.f0) ((rd_T27 l1 x7_1).f1.f1) ((rd_T27 l1 x7_1).f1.f2) ((rd_T27 l1 x7_1).f2.f0) ((rd_T27 l1 x7_1).f2.f1) ((rd_T27 l1 x7_1).f3)).bind fun t234 => (if t234 = true then ((swarfref33_Radius.f x231000_1 x231001_1 x231002_1 ((rd_T27 l1 x7_1).f0) ((rd_T27 l1 x7_1).f1.f0) ((rd_T27 l1 x7_1).f1.f1) ((rd_T27 l1 x7_1).f1.f2) ((rd_T27 l1 x7_1).f2.f0) ((rd_T27 l1 x7_1).f2.f1) ((rd_T27 l1 x7_1).f3)).bind fun t236 => (if t236 > 50000 then (some false) else (swarfref33_Few.l0 k1 l1 (wrap64 (x7_1 + 1)) ((rd_T27 l1 x7_1).f1.f0) ((rd_T27 l1 x7_1).f1.f1) ((rd_T27 l1 x7_1).f1.f2)))) else (swarfref33_Few.l0 k1 l1 (wrap64 (x7_1 + 1)) ((rd_T27 l1 x7_1).f1.f0) ((rd_T27 l1 x7_1).f1.f1) ((rd_T27 l1 x7_1).f1.f2)))) else (some true)) = some r := H
      have A9 := Aside0.mk A90
      clear A90
      by_cases c10 : t232 = 0
      ·rw [if_pos c10] at H
       have c10b0 : (t232 == 0) = true := beq_iff_eq.mpr c10
       have c10b1 : (t232 != 0) = false := bne_eq_false_iff_eq.mpr c10
       clear c10
       replace H := Option.bind_eq_some_iff.mp H
       obtain ⟨t234, A110, H⟩ := H
       replace H : (if t234 = true then ((swarfref33_Radius.f x231000_1 x231001_1 x231002_1 ((rd_T27 l1 x7_1).f0) ((rd_T27 l1 x7_1).f1.f0) ((rd_T27 l1 x7_1).f1.f1) ((rd_T27 l1 x7_1).f1.f2) ((rd_T27 l1 x7_1).f2.f0) ((rd_T27 l1 x7_1).f2.f1) ((rd_T27 l1 x7_1).f3)).bind fun t236 => (if t236 > 50000 then (some false) else (swarfref33_Few.l0 k1 l1 (wrap64 (x7_1 + 1)) ((rd_T27 l1 x7_1).f1.f0) ((rd_T27 l1 x7_1).f1.f1) ((rd_T27 l1 x7_1).f1.f2)))) else (swarfref33_Few.l0 k1 l1 (wrap64 (x7_1 + 1)) ((rd_T27 l1 x7_1).f1.f0) ((rd_T27 l1 x7_1).f1.f1) ((rd_T27 l1 x7_1).f1.f2))) = some r := H
       have A11 := Aside0.mk A110
       clear A110
       by_cases c12 : t234 = true
       ·subst c12
        have H1 : ((swarfref33_Radius.f x231000_1 x231001_1 x231002_1 ((rd_T27 l1 x7_1).f0) ((rd_T27 l1 x7_1).f1.f0) ((rd_T27 l1 x7_1).f1.f1) ((rd_T27 l1 x7_1).f1.f2) ((rd_T27 l1 x7_1).f2.f0) ((rd_T27 l1 x7_1).f2.f1) ((rd_T27 l1 x7_1).f3)).bind fun t236 => (if t236 > 50000 then (some false) else (swarfref33_Few.l0 k1 l1 (wrap64 (x7_1 + 1)) ((rd_T27 l1 x7_1).f1.f0) ((rd_T27 l1 x7_1).f1.f1) ((rd_T27 l1 x7_1).f1.f2)))) = some r := by rw [if_pos rfl] at H; exact H
        clear H
        have H := H1
        clear H1
        replace H := Option.bind_eq_some_iff.mp H
        obtain ⟨t236, A130, H⟩ := H
        replace H : (if t236 > 50000 then (some false) else (swarfref33_Few.l0 k1 l1 (wrap64 (x7_1 + 1)) ((rd_T27 l1 x7_1).f1.f0) ((rd_T27 l1 x7_1).f1.f1) ((rd_T27 l1 x7_1).f1.f2))) = some r := H
        have A13 := Aside0.mk A130
        clear A130
        by_cases c14 : t236 > 50000
        ·rw [if_pos c14] at H
         have c14b0 : decide (50000 < t236) = true := decide_eq_true c14
         clear c14
         obtain rfl := Option.some.inj H
         try go_wp2
         have n0_ := Aside0.mk (blk_drew BK230.out)
         have n1_ := Aside0.mk (below_drew1 HB.out)
         clear BK230
         clear HB
         have BK230 := n0_
         have HB := n1_
         clear n0_ n1_
         have p231 : 0 ≤ (x7_1 : Int) := of_decide_eq_true (by first | (with_reducible assumption) | assumption)
         have q231 : x7_1 < (l1.length : Int) := of_decide_eq_true (by first | (with_reducible assumption) | assumption)
         obtain ⟨ad231, e231, hx231_0, hx231_1, hx231_2, hx231_3, hx231_4, hx231_5, hx231_6⟩ := at_T27 HR1.out x7_1 p231 q231
         have hw231_6 := hx231_6
         have hw231_5 := hx231_5
         have hw231_4 := hx231_4
         have hw231_3 := hx231_3
         have hw231_2 := hx231_2
         have hw231_1 := hx231_1
         have hw231_0 := hx231_0
         cases e231
         replace hx231_0 := (HB.out.cell (World.block_lt_of_cell? w _ hx231_0)).trans hx231_0
         replace hx231_1 := (HB.out.cell (World.block_lt_of_cell? w _ hx231_1)).trans hx231_1
         replace hx231_2 := (HB.out.cell (World.block_lt_of_cell? w _ hx231_2)).trans hx231_2
         replace hx231_3 := (HB.out.cell (World.block_lt_of_cell? w _ hx231_3)).trans hx231_3
         replace hx231_4 := (HB.out.cell (World.block_lt_of_cell? w _ hx231_4)).trans hx231_4
         replace hx231_5 := (HB.out.cell (World.block_lt_of_cell? w _ hx231_5)).trans hx231_5
         replace hx231_6 := (HB.out.cell (World.block_lt_of_cell? w _ hx231_6)).trans hx231_6
         replace p231 := eq_true p231
         replace q231 := eq_true q231
         refine start_ (n := 7) (S := fun w' => w'.cell? ⟨gb230, 0, none⟩ = some (.int .i64 x231000_1) ∧ w'.cell? ⟨gb230, 1, none⟩ = some (.int .i64 x231001_1) ∧ w'.cell? ⟨gb230, 2, none⟩ = some (.int .i64 x231002_1) ∧ w'.cell? (ad231.add ((x7_1).toNat * 7)) = some (.int .i64 ((rd_T27 l1 x7_1).f0)) ∧ w'.cell? ⟨(ad231.add ((x7_1).toNat * 7)).block, (ad231.add ((x7_1).toNat * 7)).off + 1, none⟩ = some (.int .i64 ((rd_T27 l1 x7_1).f1.f0)) ∧ w'.cell? ⟨(ad231.add ((x7_1).toNat * 7)).block, (ad231.add ((x7_1).toNat * 7)).off + 2, none⟩ = some (.int .i64 ((rd_T27 l1 x7_1).f1.f1)) ∧ w'.cell? ⟨(ad231.add ((x7_1).toNat * 7)).block, (ad231.add ((x7_1).toNat * 7)).off + 3, none⟩ = some (.int .i64 ((rd_T27 l1 x7_1).f1.f2)) ∧ w'.cell? ⟨(ad231.add ((x7_1).toNat * 7)).block, (ad231.add ((x7_1).toNat * 7)).off + 4, none⟩ = some (.int .i64 ((rd_T27 l1 x7_1).f2.f0)) ∧ w'.cell? ⟨(ad231.add ((x7_1).toNat * 7)).block, (ad231.add ((x7_1).toNat * 7)).off + 5, none⟩ = some (.int .i64 ((rd_T27 l1 x7_1).f2.f1)) ∧ w'.cell? ⟨(ad231.add ((x7_1).toNat * 7)).block, (ad231.add ((x7_1).toNat * 7)).off + 6, none⟩ = some (.int .i64 ((rd_T27 l1 x7_1).f3))) (ds := []) #[false, false, false, false, false, false, false] (by kernel_rfl) rfl rfl ⟨(blk_cell BK230.out 0).trans rfl, (blk_cell BK230.out 1).trans rfl, (blk_cell BK230.out 2).trans rfl, ((HB.out.cell (World.block_lt_of_cell? w _ hw231_0)).trans hw231_0), ((HB.out.cell (World.block_lt_of_cell? w _ hw231_1)).trans hw231_1), ((HB.out.cell (World.block_lt_of_cell? w _ hw231_2)).trans hw231_2), ((HB.out.cell (World.block_lt_of_cell? w _ hw231_3)).trans hw231_3), ((HB.out.cell (World.block_lt_of_cell? w _ hw231_4)).trans hw231_4), ((HB.out.cell (World.block_lt_of_cell? w _ hw231_5)).trans hw231_5), ((HB.out.cell (World.block_lt_of_cell? w _ hw231_6)).trans hw231_6)⟩ (fun hHeld => ?_)
         generalize wr.drew = w15 at BK230 HB hx231_0 hx231_1 hx231_2 hx231_3 hx231_4 hx231_5 hx231_6 hHeld ⊢
         refine pu 1 19 (bzz 7 2) (by kernel_rfl) ?_
         refine pu 2 20 (bzz 7 6) (by kernel_rfl) ?_
         refine pu 3 21 (bzz 7 14) (by kernel_rfl) ?_
         refine ta 0 18 (bzz 7 15) (by kernel_rfl) hHeld ?_
         refine ta 4 22 (bzz 7 31) (by kernel_rfl) hHeld ?_
         refine one_ (i := 5) (N := some 23) (bzz 7 63) rfl rfl (by kernel_rfl) (by decide) (fun K hK => ?_)
         refine goes_ Try.func15 (by kernel_rfl) rfl #[.agg #[.int .i64 x231000_1, .int .i64 x231001_1, .int .i64 x231002_1], .agg #[.int .i64 ((rd_T27 l1 x7_1).f0), .int .i64 ((rd_T27 l1 x7_1).f1.f0), .int .i64 ((rd_T27 l1 x7_1).f1.f1), .int .i64 ((rd_T27 l1 x7_1).f1.f2), .int .i64 ((rd_T27 l1 x7_1).f2.f0), .int .i64 ((rd_T27 l1 x7_1).f2.f1), .int .i64 ((rd_T27 l1 x7_1).f3)]] (by rfl) rfl rfl (by (try simp only [List.map_toArray, List.map_cons, List.map_nil]); first | done | rfl | (simp only [List.length_drop, List.length_take]; rfl)) ?_
         with_reducible refine (swarfref33_Valid.calls k1 x231000_1 x231001_1 x231002_1 ((rd_T27 l1 x7_1).f0) ((rd_T27 l1 x7_1).f1.f0) ((rd_T27 l1 x7_1).f1.f1) ((rd_T27 l1 x7_1).f1.f2) ((rd_T27 l1 x7_1).f2.f0) ((rd_T27 l1 x7_1).f2.f1) ((rd_T27 l1 x7_1).f3) t232 _ A9.out).mono ?_
         rintro e w16 ⟨rfl, hb⟩
         refine ⟨_, rfl, ?_⟩
         have n0_ := Aside0.mk (blk_below (by exact BK230.out) hb)
         have n1_ := Aside0.mk (below_step (by first | exact HB.out | exact pw_below_drewN HB.out _) hb)
         clear BK230
         clear HB
         have BK230 := n0_
         have HB := n1_
         clear n0_ n1_
         (try clear hb)
         (try clear hb2)
         (try clear hk)
         (try clear hi)
         refine hK.out _ _ ⟨(blk_cell BK230.out 0).trans rfl, (blk_cell BK230.out 1).trans rfl, (blk_cell BK230.out 2).trans rfl, ((HB.out.cell (World.block_lt_of_cell? w _ hw231_0)).trans hw231_0), ((HB.out.cell (World.block_lt_of_cell? w _ hw231_1)).trans hw231_1), ((HB.out.cell (World.block_lt_of_cell? w _ hw231_2)).trans hw231_2), ((HB.out.cell (World.block_lt_of_cell? w _ hw231_3)).trans hw231_3), ((HB.out.cell (World.block_lt_of_cell? w _ hw231_4)).trans hw231_4), ((HB.out.cell (World.block_lt_of_cell? w _ hw231_5)).trans hw231_5), ((HB.out.cell (World.block_lt_of_cell? w _ hw231_6)).trans hw231_6)⟩ (fun hHeld => ?_)
         clear hK K
         refine norm_ (a' := ?_) ?_ ?_
         rotate_left
         ·show Act.put _ (some 23) _ = _
          simp only [Act.put, List.setIfInBounds_toArray, List.set_cons_zero, List.set_cons_succ, i64_w, i32_w]
          rfl
         refine pu 6 24 (bzz 7 127) (by kernel_rfl) ?_
         refine done_ (by kernel_rfl) ?_
         try go_wp2
         have n0_ := Aside0.mk (blk_drew BK230.out)
         have n1_ := Aside0.mk (below_drew1 HB.out)
         clear BK230
         clear HB
         have BK230 := n0_
         have HB := n1_
         clear n0_ n1_
         have p233 : 0 ≤ (x7_1 : Int) := of_decide_eq_true (by first | (with_reducible assumption) | assumption)
         have q233 : x7_1 < (l1.length : Int) := of_decide_eq_true (by first | (with_reducible assumption) | assumption)
         obtain ⟨ad233, e233, hx233_0, hx233_1, hx233_2, hx233_3, hx233_4, hx233_5, hx233_6⟩ := at_T27 HR1.out x7_1 p233 q233
         have hw233_6 := hx233_6
         have hw233_5 := hx233_5
         have hw233_4 := hx233_4
         have hw233_3 := hx233_3
         have hw233_2 := hx233_2
         have hw233_1 := hx233_1
         have hw233_0 := hx233_0
         obtain rfl : ad231 = ad233 := (by injection e233)
         replace hx233_0 := (HB.out.cell (World.block_lt_of_cell? w _ hx233_0)).trans hx233_0
         replace hx233_1 := (HB.out.cell (World.block_lt_of_cell? w _ hx233_1)).trans hx233_1
         replace hx233_2 := (HB.out.cell (World.block_lt_of_cell? w _ hx233_2)).trans hx233_2
         replace hx233_3 := (HB.out.cell (World.block_lt_of_cell? w _ hx233_3)).trans hx233_3
         replace hx233_4 := (HB.out.cell (World.block_lt_of_cell? w _ hx233_4)).trans hx233_4
         replace hx233_5 := (HB.out.cell (World.block_lt_of_cell? w _ hx233_5)).trans hx233_5
         replace hx233_6 := (HB.out.cell (World.block_lt_of_cell? w _ hx233_6)).trans hx233_6
         replace p233 := eq_true p233
         replace q233 := eq_true q233
         have p235 : 0 ≤ (x7_1 : Int) := of_decide_eq_true (by first | (with_reducible assumption) | assumption)
         have q235 : x7_1 < (l1.length : Int) := of_decide_eq_true (by first | (with_reducible assumption) | assumption)
         obtain ⟨ad235, e235, hx235_0, hx235_1, hx235_2, hx235_3, hx235_4, hx235_5, hx235_6⟩ := at_T27 HR1.out x7_1 p235 q235
         have hw235_6 := hx235_6
         have hw235_5 := hx235_5
         have hw235_4 := hx235_4
         have hw235_3 := hx235_3
         have hw235_2 := hx235_2
         have hw235_1 := hx235_1
         have hw235_0 := hx235_0
         obtain rfl : ad231 = ad235 := (by injection e235)
         replace hx235_0 := (HB.out.cell (World.block_lt_of_cell? w _ hx235_0)).trans hx235_0
         replace hx235_1 := (HB.out.cell (World.block_lt_of_cell? w _ hx235_1)).trans hx235_1
         replace hx235_2 := (HB.out.cell (World.block_lt_of_cell? w _ hx235_2)).trans hx235_2
         replace hx235_3 := (HB.out.cell (World.block_lt_of_cell? w _ hx235_3)).trans hx235_3
         replace hx235_4 := (HB.out.cell (World.block_lt_of_cell? w _ hx235_4)).trans hx235_4
         replace hx235_5 := (HB.out.cell (World.block_lt_of_cell? w _ hx235_5)).trans hx235_5
         replace hx235_6 := (HB.out.cell (World.block_lt_of_cell? w _ hx235_6)).trans hx235_6
         replace p235 := eq_true p235
         replace q235 := eq_true q235
         refine start_ (n := 14) (S := fun w' => w'.cell? ⟨gb230, 0, none⟩ = some (.int .i64 x231000_1) ∧ w'.cell? ⟨gb230, 1, none⟩ = some (.int .i64 x231001_1) ∧ w'.cell? ⟨gb230, 2, none⟩ = some (.int .i64 x231002_1) ∧ w'.cell? (ad231.add ((x7_1).toNat * 7)) = some (.int .i64 ((rd_T27 l1 x7_1).f0)) ∧ w'.cell? ⟨(ad231.add ((x7_1).toNat * 7)).block, (ad231.add ((x7_1).toNat * 7)).off + 1, none⟩ = some (.int .i64 ((rd_T27 l1 x7_1).f1.f0)) ∧ w'.cell? ⟨(ad231.add ((x7_1).toNat * 7)).block, (ad231.add ((x7_1).toNat * 7)).off + 2, none⟩ = some (.int .i64 ((rd_T27 l1 x7_1).f1.f1)) ∧ w'.cell? ⟨(ad231.add ((x7_1).toNat * 7)).block, (ad231.add ((x7_1).toNat * 7)).off + 3, none⟩ = some (.int .i64 ((rd_T27 l1 x7_1).f1.f2)) ∧ w'.cell? ⟨(ad231.add ((x7_1).toNat * 7)).block, (ad231.add ((x7_1).toNat * 7)).off + 4, none⟩ = some (.int .i64 ((rd_T27 l1 x7_1).f2.f0)) ∧ w'.cell? ⟨(ad231.add ((x7_1).toNat * 7)).block, (ad231.add ((x7_1).toNat * 7)).off + 5, none⟩ = some (.int .i64 ((rd_T27 l1 x7_1).f2.f1)) ∧ w'.cell? ⟨(ad231.add ((x7_1).toNat * 7)).block, (ad231.add ((x7_1).toNat * 7)).off + 6, none⟩ = some (.int .i64 ((rd_T27 l1 x7_1).f3)) ∧ w'.cell? (ad231.add ((x7_1).toNat * 7)) = some (.int .i64 ((rd_T27 l1 x7_1).f0)) ∧ w'.cell? ⟨(ad231.add ((x7_1).toNat * 7)).block, (ad231.add ((x7_1).toNat * 7)).off + 1, none⟩ = some (.int .i64 ((rd_T27 l1 x7_1).f1.f0)) ∧ w'.cell? ⟨(ad231.add ((x7_1).toNat * 7)).block, (ad231.add ((x7_1).toNat * 7)).off + 2, none⟩ = some (.int .i64 ((rd_T27 l1 x7_1).f1.f1)) ∧ w'.cell? ⟨(ad231.add ((x7_1).toNat * 7)).block, (ad231.add ((x7_1).toNat * 7)).off + 3, none⟩ = some (.int .i64 ((rd_T27 l1 x7_1).f1.f2)) ∧ w'.cell? ⟨(ad231.add ((x7_1).toNat * 7)).block, (ad231.add ((x7_1).toNat * 7)).off + 4, none⟩ = some (.int .i64 ((rd_T27 l1 x7_1).f2.f0)) ∧ w'.cell? ⟨(ad231.add ((x7_1).toNat * 7)).block, (ad231.add ((x7_1).toNat * 7)).off + 5, none⟩ = some (.int .i64 ((rd_T27 l1 x7_1).f2.f1)) ∧ w'.cell? ⟨(ad231.add ((x7_1).toNat * 7)).block, (ad231.add ((x7_1).toNat * 7)).off + 6, none⟩ = some (.int .i64 ((rd_T27 l1 x7_1).f3))) (ds := []) #[false, false, false, false, false, false, false, false, false, false, false, false, false, false] (by kernel_rfl) rfl rfl ⟨(blk_cell BK230.out 0).trans rfl, (blk_cell BK230.out 1).trans rfl, (blk_cell BK230.out 2).trans rfl, ((HB.out.cell (World.block_lt_of_cell? w _ hw233_0)).trans hw233_0), ((HB.out.cell (World.block_lt_of_cell? w _ hw233_1)).trans hw233_1), ((HB.out.cell (World.block_lt_of_cell? w _ hw233_2)).trans hw233_2), ((HB.out.cell (World.block_lt_of_cell? w _ hw233_3)).trans hw233_3), ((HB.out.cell (World.block_lt_of_cell? w _ hw233_4)).trans hw233_4), ((HB.out.cell (World.block_lt_of_cell? w _ hw233_5)).trans hw233_5), ((HB.out.cell (World.block_lt_of_cell? w _ hw233_6)).trans hw233_6), ((HB.out.cell (World.block_lt_of_cell? w _ hw235_0)).trans hw235_0), ((HB.out.cell (World.block_lt_of_cell? w _ hw235_1)).trans hw235_1), ((HB.out.cell (World.block_lt_of_cell? w _ hw235_2)).trans hw235_2), ((HB.out.cell (World.block_lt_of_cell? w _ hw235_3)).trans hw235_3), ((HB.out.cell (World.block_lt_of_cell? w _ hw235_4)).trans hw235_4), ((HB.out.cell (World.block_lt_of_cell? w _ hw235_5)).trans hw235_5), ((HB.out.cell (World.block_lt_of_cell? w _ hw235_6)).trans hw235_6)⟩ (fun hHeld => ?_); refine with_tabW swarfref33_Few.tab8 swarfref33_Few.bits8 (fun HT_ HW_ => ?_)
         generalize w16.drew = w17 at BK230 HB hx233_0 hx233_1 hx233_2 hx233_3 hx233_4 hx233_5 hx233_6 hx235_0 hx235_1 hx235_2 hx235_3 hx235_4 hx235_5 hx235_6 hHeld ⊢
         refine pu 0 25 (bzz 14 1) (any_of HT_.out (by kernel_rfl)) ?_
         refine pu 1 26 (bzz 14 3) (any_of HT_.out (by kernel_rfl)) ?_
         refine pu 2 27 (bzz 14 7) (any_of HT_.out (by kernel_rfl)) ?_
         refine ta 3 28 (bzz 14 15) (take_ofW HT_.out HW_.out (by kernel_rfl)) hHeld ?_
         refine one_ (i := 4) (N := some 29) (bzz 14 31) rfl rfl (one_of HT_.out (by kernel_rfl)) (by decide) (fun K hK => ?_)
         refine goes_ Try.func31 (by kernel_rfl) rfl #[.agg #[.int .i64 ((rd_T27 l1 x7_1).f0), .int .i64 ((rd_T27 l1 x7_1).f1.f0), .int .i64 ((rd_T27 l1 x7_1).f1.f1), .int .i64 ((rd_T27 l1 x7_1).f1.f2), .int .i64 ((rd_T27 l1 x7_1).f2.f0), .int .i64 ((rd_T27 l1 x7_1).f2.f1), .int .i64 ((rd_T27 l1 x7_1).f3)]] (by rfl) rfl rfl (by (try simp only [List.map_toArray, List.map_cons, List.map_nil]); first | done | rfl | (simp only [List.length_drop, List.length_take]; rfl)) ?_
         with_reducible refine (swarfref33_arc.calls ((rd_T27 l1 x7_1).f0) ((rd_T27 l1 x7_1).f1.f0) ((rd_T27 l1 x7_1).f1.f1) ((rd_T27 l1 x7_1).f1.f2) ((rd_T27 l1 x7_1).f2.f0) ((rd_T27 l1 x7_1).f2.f1) ((rd_T27 l1 x7_1).f3) true _ A11.out).mono ?_
         rintro e w18 ⟨rfl, hb⟩
         refine ⟨_, rfl, ?_⟩
         have n0_ := Aside0.mk (blk_below (by exact BK230.out) hb)
         have n1_ := Aside0.mk (below_step (by first | exact HB.out | exact pw_below_drewN HB.out _) hb)
         clear BK230
         clear HB
         have BK230 := n0_
         have HB := n1_
         clear n0_ n1_
         (try clear hb)
         (try clear hb2)
         (try clear hk)
         (try clear hi)
         refine hK.out _ _ ⟨(blk_cell BK230.out 0).trans rfl, (blk_cell BK230.out 1).trans rfl, (blk_cell BK230.out 2).trans rfl, ((HB.out.cell (World.block_lt_of_cell? w _ hw233_0)).trans hw233_0), ((HB.out.cell (World.block_lt_of_cell? w _ hw233_1)).trans hw233_1), ((HB.out.cell (World.block_lt_of_cell? w _ hw233_2)).trans hw233_2), ((HB.out.cell (World.block_lt_of_cell? w _ hw233_3)).trans hw233_3), ((HB.out.cell (World.block_lt_of_cell? w _ hw233_4)).trans hw233_4), ((HB.out.cell (World.block_lt_of_cell? w _ hw233_5)).trans hw233_5), ((HB.out.cell (World.block_lt_of_cell? w _ hw233_6)).trans hw233_6), ((HB.out.cell (World.block_lt_of_cell? w _ hw235_0)).trans hw235_0), ((HB.out.cell (World.block_lt_of_cell? w _ hw235_1)).trans hw235_1), ((HB.out.cell (World.block_lt_of_cell? w _ hw235_2)).trans hw235_2), ((HB.out.cell (World.block_lt_of_cell? w _ hw235_3)).trans hw235_3), ((HB.out.cell (World.block_lt_of_cell? w _ hw235_4)).trans hw235_4), ((HB.out.cell (World.block_lt_of_cell? w _ hw235_5)).trans hw235_5), ((HB.out.cell (World.block_lt_of_cell? w _ hw235_6)).trans hw235_6)⟩ (fun hHeld => ?_)
         clear hK K
         refine norm_ (a' := ?_) ?_ ?_
         rotate_left
         ·show Act.put _ (some 29) _ = _
          simp only [Act.put, List.setIfInBounds_toArray, List.set_cons_zero, List.set_cons_succ, i64_w, i32_w]
          rfl
         refine pu 5 30 (bzz 14 63) (any_of HT_.out (by kernel_rfl)) ?_
         refine pu 7 32 (bzz 14 191) (any_of HT_.out (by kernel_rfl)) ?_
         refine pu 8 33 (bzz 14 447) (any_of HT_.out (by kernel_rfl)) ?_
         refine pu 9 34 (bzz 14 959) (any_of HT_.out (by kernel_rfl)) ?_
         refine ta 6 31 (bzz 14 1023) (take_ofW HT_.out HW_.out (by kernel_rfl)) hHeld ?_
         refine ta 10 35 (bzz 14 2047) (take_ofW HT_.out HW_.out (by kernel_rfl)) hHeld ?_
         refine one_ (i := 11) (N := some 36) (bzz 14 4095) rfl rfl (one_of HT_.out (by kernel_rfl)) (by decide) (fun K hK => ?_)
         refine goes_ Try.func21 (by kernel_rfl) rfl #[.agg #[.int .i64 x231000_1, .int .i64 x231001_1, .int .i64 x231002_1], .agg #[.int .i64 ((rd_T27 l1 x7_1).f0), .int .i64 ((rd_T27 l1 x7_1).f1.f0), .int .i64 ((rd_T27 l1 x7_1).f1.f1), .int .i64 ((rd_T27 l1 x7_1).f1.f2), .int .i64 ((rd_T27 l1 x7_1).f2.f0), .int .i64 ((rd_T27 l1 x7_1).f2.f1), .int .i64 ((rd_T27 l1 x7_1).f3)]] (by rfl) rfl rfl (by (try simp only [List.map_toArray, List.map_cons, List.map_nil]); first | done | rfl | (simp only [List.length_drop, List.length_take]; rfl)) ?_
         with_reducible refine (swarfref33_Radius.calls x231000_1 x231001_1 x231002_1 ((rd_T27 l1 x7_1).f0) ((rd_T27 l1 x7_1).f1.f0) ((rd_T27 l1 x7_1).f1.f1) ((rd_T27 l1 x7_1).f1.f2) ((rd_T27 l1 x7_1).f2.f0) ((rd_T27 l1 x7_1).f2.f1) ((rd_T27 l1 x7_1).f3) t236 _ A13.out).mono ?_
         rintro e w19 ⟨rfl, hb⟩
         refine ⟨_, rfl, ?_⟩
         have n0_ := Aside0.mk (blk_below (by exact BK230.out) hb)
         have n1_ := Aside0.mk (below_step (by first | exact HB.out | exact pw_below_drewN HB.out _) hb)
         clear BK230
         clear HB
         have BK230 := n0_
         have HB := n1_
         clear n0_ n1_
         (try clear hb)
         (try clear hb2)
         (try clear hk)
         (try clear hi)
         refine hK.out _ _ ⟨(blk_cell BK230.out 0).trans rfl, (blk_cell BK230.out 1).trans rfl, (blk_cell BK230.out 2).trans rfl, ((HB.out.cell (World.block_lt_of_cell? w _ hw233_0)).trans hw233_0), ((HB.out.cell (World.block_lt_of_cell? w _ hw233_1)).trans hw233_1), ((HB.out.cell (World.block_lt_of_cell? w _ hw233_2)).trans hw233_2), ((HB.out.cell (World.block_lt_of_cell? w _ hw233_3)).trans hw233_3), ((HB.out.cell (World.block_lt_of_cell? w _ hw233_4)).trans hw233_4), ((HB.out.cell (World.block_lt_of_cell? w _ hw233_5)).trans hw233_5), ((HB.out.cell (World.block_lt_of_cell? w _ hw233_6)).trans hw233_6), ((HB.out.cell (World.block_lt_of_cell? w _ hw235_0)).trans hw235_0), ((HB.out.cell (World.block_lt_of_cell? w _ hw235_1)).trans hw235_1), ((HB.out.cell (World.block_lt_of_cell? w _ hw235_2)).trans hw235_2), ((HB.out.cell (World.block_lt_of_cell? w _ hw235_3)).trans hw235_3), ((HB.out.cell (World.block_lt_of_cell? w _ hw235_4)).trans hw235_4), ((HB.out.cell (World.block_lt_of_cell? w _ hw235_5)).trans hw235_5), ((HB.out.cell (World.block_lt_of_cell? w _ hw235_6)).trans hw235_6)⟩ (fun hHeld => ?_)
         clear hK K
         refine norm_ (a' := ?_) ?_ ?_
         rotate_left
         ·show Act.put _ (some 36) _ = _
          simp only [Act.put, List.setIfInBounds_toArray, List.set_cons_zero, List.set_cons_succ, i64_w, i32_w]
          rfl
         refine pu 12 37 (bzz 14 8191) (any_of HT_.out (by kernel_rfl)) ?_
         refine pu 13 38 (bzz 14 16383) (any_of HT_.out (by kernel_rfl)) ?_
         refine done_ (done_of HT_.out (by kernel_rfl)) ?_
         try go_wp2
         go_ret
         exact ⟨by first | rfl | (simp [errW_none, errW_some] <;> rfl) | (simp [*, errW_none, errW_some] <;> rfl), by repeat (first | (with_reducible first | exact HB.out | apply below_alloc | apply pw_below_drewN | apply below_drew1 | refine below_set ?_ GE230.out) | exact HB.out)⟩
        ·rw [if_neg c14] at H
         have c14b0 : decide (50000 < t236) = false := decide_eq_false c14
         clear c14
         have H' := Aside0.mk H
         clear H
         try go_wp2
         have n0_ := Aside0.mk (blk_drew BK230.out)
         have n1_ := Aside0.mk (below_drew1 HB.out)
         clear BK230
         clear HB
         have BK230 := n0_
         have HB := n1_
         clear n0_ n1_
         have p231 : 0 ≤ (x7_1 : Int) := of_decide_eq_true (by first | (with_reducible assumption) | assumption)
         have q231 : x7_1 < (l1.length : Int) := of_decide_eq_true (by first | (with_reducible assumption) | assumption)
         obtain ⟨ad231, e231, hx231_0, hx231_1, hx231_2, hx231_3, hx231_4, hx231_5, hx231_6⟩ := at_T27 HR1.out x7_1 p231 q231
         have hw231_6 := hx231_6
         have hw231_5 := hx231_5
         have hw231_4 := hx231_4
         have hw231_3 := hx231_3
         have hw231_2 := hx231_2
         have hw231_1 := hx231_1
         have hw231_0 := hx231_0
         cases e231
         replace hx231_0 := (HB.out.cell (World.block_lt_of_cell? w _ hx231_0)).trans hx231_0
         replace hx231_1 := (HB.out.cell (World.block_lt_of_cell? w _ hx231_1)).trans hx231_1
         replace hx231_2 := (HB.out.cell (World.block_lt_of_cell? w _ hx231_2)).trans hx231_2
         replace hx231_3 := (HB.out.cell (World.block_lt_of_cell? w _ hx231_3)).trans hx231_3
         replace hx231_4 := (HB.out.cell (World.block_lt_of_cell? w _ hx231_4)).trans hx231_4
         replace hx231_5 := (HB.out.cell (World.block_lt_of_cell? w _ hx231_5)).trans hx231_5
         replace hx231_6 := (HB.out.cell (World.block_lt_of_cell? w _ hx231_6)).trans hx231_6
         replace p231 := eq_true p231
         replace q231 := eq_true q231
         refine start_ (n := 7) (S := fun w' => w'.cell? ⟨gb230, 0, none⟩ = some (.int .i64 x231000_1) ∧ w'.cell? ⟨gb230, 1, none⟩ = some (.int .i64 x231001_1) ∧ w'.cell? ⟨gb230, 2, none⟩ = some (.int .i64 x231002_1) ∧ w'.cell? (ad231.add ((x7_1).toNat * 7)) = some (.int .i64 ((rd_T27 l1 x7_1).f0)) ∧ w'.cell? ⟨(ad231.add ((x7_1).toNat * 7)).block, (ad231.add ((x7_1).toNat * 7)).off + 1, none⟩ = some (.int .i64 ((rd_T27 l1 x7_1).f1.f0)) ∧ w'.cell? ⟨(ad231.add ((x7_1).toNat * 7)).block, (ad231.add ((x7_1).toNat * 7)).off + 2, none⟩ = some (.int .i64 ((rd_T27 l1 x7_1).f1.f1)) ∧ w'.cell? ⟨(ad231.add ((x7_1).toNat * 7)).block, (ad231.add ((x7_1).toNat * 7)).off + 3, none⟩ = some (.int .i64 ((rd_T27 l1 x7_1).f1.f2)) ∧ w'.cell? ⟨(ad231.add ((x7_1).toNat * 7)).block, (ad231.add ((x7_1).toNat * 7)).off + 4, none⟩ = some (.int .i64 ((rd_T27 l1 x7_1).f2.f0)) ∧ w'.cell? ⟨(ad231.add ((x7_1).toNat * 7)).block, (ad231.add ((x7_1).toNat * 7)).off + 5, none⟩ = some (.int .i64 ((rd_T27 l1 x7_1).f2.f1)) ∧ w'.cell? ⟨(ad231.add ((x7_1).toNat * 7)).block, (ad231.add ((x7_1).toNat * 7)).off + 6, none⟩ = some (.int .i64 ((rd_T27 l1 x7_1).f3))) (ds := []) #[false, false, false, false, false, false, false] (by kernel_rfl) rfl rfl ⟨(blk_cell BK230.out 0).trans rfl, (blk_cell BK230.out 1).trans rfl, (blk_cell BK230.out 2).trans rfl, ((HB.out.cell (World.block_lt_of_cell? w _ hw231_0)).trans hw231_0), ((HB.out.cell (World.block_lt_of_cell? w _ hw231_1)).trans hw231_1), ((HB.out.cell (World.block_lt_of_cell? w _ hw231_2)).trans hw231_2), ((HB.out.cell (World.block_lt_of_cell? w _ hw231_3)).trans hw231_3), ((HB.out.cell (World.block_lt_of_cell? w _ hw231_4)).trans hw231_4), ((HB.out.cell (World.block_lt_of_cell? w _ hw231_5)).trans hw231_5), ((HB.out.cell (World.block_lt_of_cell? w _ hw231_6)).trans hw231_6)⟩ (fun hHeld => ?_)
         generalize wr.drew = w20 at BK230 HB hx231_0 hx231_1 hx231_2 hx231_3 hx231_4 hx231_5 hx231_6 hHeld ⊢
         refine pu 1 19 (bzz 7 2) (by kernel_rfl) ?_
         refine pu 2 20 (bzz 7 6) (by kernel_rfl) ?_
         refine pu 3 21 (bzz 7 14) (by kernel_rfl) ?_
         refine ta 0 18 (bzz 7 15) (by kernel_rfl) hHeld ?_
         refine ta 4 22 (bzz 7 31) (by kernel_rfl) hHeld ?_
         refine one_ (i := 5) (N := some 23) (bzz 7 63) rfl rfl (by kernel_rfl) (by decide) (fun K hK => ?_)
         refine goes_ Try.func15 (by kernel_rfl) rfl #[.agg #[.int .i64 x231000_1, .int .i64 x231001_1, .int .i64 x231002_1], .agg #[.int .i64 ((rd_T27 l1 x7_1).f0), .int .i64 ((rd_T27 l1 x7_1).f1.f0), .int .i64 ((rd_T27 l1 x7_1).f1.f1), .int .i64 ((rd_T27 l1 x7_1).f1.f2), .int .i64 ((rd_T27 l1 x7_1).f2.f0), .int .i64 ((rd_T27 l1 x7_1).f2.f1), .int .i64 ((rd_T27 l1 x7_1).f3)]] (by rfl) rfl rfl (by (try simp only [List.map_toArray, List.map_cons, List.map_nil]); first | done | rfl | (simp only [List.length_drop, List.length_take]; rfl)) ?_
         with_reducible refine (swarfref33_Valid.calls k1 x231000_1 x231001_1 x231002_1 ((rd_T27 l1 x7_1).f0) ((rd_T27 l1 x7_1).f1.f0) ((rd_T27 l1 x7_1).f1.f1) ((rd_T27 l1 x7_1).f1.f2) ((rd_T27 l1 x7_1).f2.f0) ((rd_T27 l1 x7_1).f2.f1) ((rd_T27 l1 x7_1).f3) t232 _ A9.out).mono ?_
         rintro e w21 ⟨rfl, hb⟩
         refine ⟨_, rfl, ?_⟩
         have n0_ := Aside0.mk (blk_below (by exact BK230.out) hb)
         have n1_ := Aside0.mk (below_step (by first | exact HB.out | exact pw_below_drewN HB.out _) hb)
         clear BK230
         clear HB
         have BK230 := n0_
         have HB := n1_
         clear n0_ n1_
         (try clear hb)
         (try clear hb2)
         (try clear hk)
         (try clear hi)
         refine hK.out _ _ ⟨(blk_cell BK230.out 0).trans rfl, (blk_cell BK230.out 1).trans rfl, (blk_cell BK230.out 2).trans rfl, ((HB.out.cell (World.block_lt_of_cell? w _ hw231_0)).trans hw231_0), ((HB.out.cell (World.block_lt_of_cell? w _ hw231_1)).trans hw231_1), ((HB.out.cell (World.block_lt_of_cell? w _ hw231_2)).trans hw231_2), ((HB.out.cell (World.block_lt_of_cell? w _ hw231_3)).trans hw231_3), ((HB.out.cell (World.block_lt_of_cell? w _ hw231_4)).trans hw231_4), ((HB.out.cell (World.block_lt_of_cell? w _ hw231_5)).trans hw231_5), ((HB.out.cell (World.block_lt_of_cell? w _ hw231_6)).trans hw231_6)⟩ (fun hHeld => ?_)
         clear hK K
         refine norm_ (a' := ?_) ?_ ?_
         rotate_left
         ·show Act.put _ (some 23) _ = _
          simp only [Act.put, List.setIfInBounds_toArray, List.set_cons_zero, List.set_cons_succ, i64_w, i32_w]
          rfl
         refine pu 6 24 (bzz 7 127) (by kernel_rfl) ?_
         refine done_ (by kernel_rfl) ?_
         try go_wp2
         have n0_ := Aside0.mk (blk_drew BK230.out)
         have n1_ := Aside0.mk (below_drew1 HB.out)
         clear BK230
         clear HB
         have BK230 := n0_
         have HB := n1_
         clear n0_ n1_
         have p233 : 0 ≤ (x7_1 : Int) := of_decide_eq_true (by first | (with_reducible assumption) | assumption)
         have q233 : x7_1 < (l1.length : Int) := of_decide_eq_true (by first | (with_reducible assumption) | assumption)
         obtain ⟨ad233, e233, hx233_0, hx233_1, hx233_2, hx233_3, hx233_4, hx233_5, hx233_6⟩ := at_T27 HR1.out x7_1 p233 q233
         have hw233_6 := hx233_6
         have hw233_5 := hx233_5
         have hw233_4 := hx233_4
         have hw233_3 := hx233_3
         have hw233_2 := hx233_2
         have hw233_1 := hx233_1
         have hw233_0 := hx233_0
         obtain rfl : ad231 = ad233 := (by injection e233)
         replace hx233_0 := (HB.out.cell (World.block_lt_of_cell? w _ hx233_0)).trans hx233_0
         replace hx233_1 := (HB.out.cell (World.block_lt_of_cell? w _ hx233_1)).trans hx233_1
         replace hx233_2 := (HB.out.cell (World.block_lt_of_cell? w _ hx233_2)).trans hx233_2
         replace hx233_3 := (HB.out.cell (World.block_lt_of_cell? w _ hx233_3)).trans hx233_3
         replace hx233_4 := (HB.out.cell (World.block_lt_of_cell? w _ hx233_4)).trans hx233_4
         replace hx233_5 := (HB.out.cell (World.block_lt_of_cell? w _ hx233_5)).trans hx233_5
         replace hx233_6 := (HB.out.cell (World.block_lt_of_cell? w _ hx233_6)).trans hx233_6
         replace p233 := eq_true p233
         replace q233 := eq_true q233
         have p235 : 0 ≤ (x7_1 : Int) := of_decide_eq_true (by first | (with_reducible assumption) | assumption)
         have q235 : x7_1 < (l1.length : Int) := of_decide_eq_true (by first | (with_reducible assumption) | assumption)
         obtain ⟨ad235, e235, hx235_0, hx235_1, hx235_2, hx235_3, hx235_4, hx235_5, hx235_6⟩ := at_T27 HR1.out x7_1 p235 q235
         have hw235_6 := hx235_6
         have hw235_5 := hx235_5
         have hw235_4 := hx235_4
         have hw235_3 := hx235_3
         have hw235_2 := hx235_2
         have hw235_1 := hx235_1
         have hw235_0 := hx235_0
         obtain rfl : ad231 = ad235 := (by injection e235)
         replace hx235_0 := (HB.out.cell (World.block_lt_of_cell? w _ hx235_0)).trans hx235_0
         replace hx235_1 := (HB.out.cell (World.block_lt_of_cell? w _ hx235_1)).trans hx235_1
         replace hx235_2 := (HB.out.cell (World.block_lt_of_cell? w _ hx235_2)).trans hx235_2
         replace hx235_3 := (HB.out.cell (World.block_lt_of_cell? w _ hx235_3)).trans hx235_3
         replace hx235_4 := (HB.out.cell (World.block_lt_of_cell? w _ hx235_4)).trans hx235_4
         replace hx235_5 := (HB.out.cell (World.block_lt_of_cell? w _ hx235_5)).trans hx235_5
         replace hx235_6 := (HB.out.cell (World.block_lt_of_cell? w _ hx235_6)).trans hx235_6
         replace p235 := eq_true p235
         replace q235 := eq_true q235
         refine start_ (n := 14) (S := fun w' => w'.cell? ⟨gb230, 0, none⟩ = some (.int .i64 x231000_1) ∧ w'.cell? ⟨gb230, 1, none⟩ = some (.int .i64 x231001_1) ∧ w'.cell? ⟨gb230, 2, none⟩ = some (.int .i64 x231002_1) ∧ w'.cell? (ad231.add ((x7_1).toNat * 7)) = some (.int .i64 ((rd_T27 l1 x7_1).f0)) ∧ w'.cell? ⟨(ad231.add ((x7_1).toNat * 7)).block, (ad231.add ((x7_1).toNat * 7)).off + 1, none⟩ = some (.int .i64 ((rd_T27 l1 x7_1).f1.f0)) ∧ w'.cell? ⟨(ad231.add ((x7_1).toNat * 7)).block, (ad231.add ((x7_1).toNat * 7)).off + 2, none⟩ = some (.int .i64 ((rd_T27 l1 x7_1).f1.f1)) ∧ w'.cell? ⟨(ad231.add ((x7_1).toNat * 7)).block, (ad231.add ((x7_1).toNat * 7)).off + 3, none⟩ = some (.int .i64 ((rd_T27 l1 x7_1).f1.f2)) ∧ w'.cell? ⟨(ad231.add ((x7_1).toNat * 7)).block, (ad231.add ((x7_1).toNat * 7)).off + 4, none⟩ = some (.int .i64 ((rd_T27 l1 x7_1).f2.f0)) ∧ w'.cell? ⟨(ad231.add ((x7_1).toNat * 7)).block, (ad231.add ((x7_1).toNat * 7)).off + 5, none⟩ = some (.int .i64 ((rd_T27 l1 x7_1).f2.f1)) ∧ w'.cell? ⟨(ad231.add ((x7_1).toNat * 7)).block, (ad231.add ((x7_1).toNat * 7)).off + 6, none⟩ = some (.int .i64 ((rd_T27 l1 x7_1).f3)) ∧ w'.cell? (ad231.add ((x7_1).toNat * 7)) = some (.int .i64 ((rd_T27 l1 x7_1).f0)) ∧ w'.cell? ⟨(ad231.add ((x7_1).toNat * 7)).block, (ad231.add ((x7_1).toNat * 7)).off + 1, none⟩ = some (.int .i64 ((rd_T27 l1 x7_1).f1.f0)) ∧ w'.cell? ⟨(ad231.add ((x7_1).toNat * 7)).block, (ad231.add ((x7_1).toNat * 7)).off + 2, none⟩ = some (.int .i64 ((rd_T27 l1 x7_1).f1.f1)) ∧ w'.cell? ⟨(ad231.add ((x7_1).toNat * 7)).block, (ad231.add ((x7_1).toNat * 7)).off + 3, none⟩ = some (.int .i64 ((rd_T27 l1 x7_1).f1.f2)) ∧ w'.cell? ⟨(ad231.add ((x7_1).toNat * 7)).block, (ad231.add ((x7_1).toNat * 7)).off + 4, none⟩ = some (.int .i64 ((rd_T27 l1 x7_1).f2.f0)) ∧ w'.cell? ⟨(ad231.add ((x7_1).toNat * 7)).block, (ad231.add ((x7_1).toNat * 7)).off + 5, none⟩ = some (.int .i64 ((rd_T27 l1 x7_1).f2.f1)) ∧ w'.cell? ⟨(ad231.add ((x7_1).toNat * 7)).block, (ad231.add ((x7_1).toNat * 7)).off + 6, none⟩ = some (.int .i64 ((rd_T27 l1 x7_1).f3))) (ds := []) #[false, false, false, false, false, false, false, false, false, false, false, false, false, false] (by kernel_rfl) rfl rfl ⟨(blk_cell BK230.out 0).trans rfl, (blk_cell BK230.out 1).trans rfl, (blk_cell BK230.out 2).trans rfl, ((HB.out.cell (World.block_lt_of_cell? w _ hw233_0)).trans hw233_0), ((HB.out.cell (World.block_lt_of_cell? w _ hw233_1)).trans hw233_1), ((HB.out.cell (World.block_lt_of_cell? w _ hw233_2)).trans hw233_2), ((HB.out.cell (World.block_lt_of_cell? w _ hw233_3)).trans hw233_3), ((HB.out.cell (World.block_lt_of_cell? w _ hw233_4)).trans hw233_4), ((HB.out.cell (World.block_lt_of_cell? w _ hw233_5)).trans hw233_5), ((HB.out.cell (World.block_lt_of_cell? w _ hw233_6)).trans hw233_6), ((HB.out.cell (World.block_lt_of_cell? w _ hw235_0)).trans hw235_0), ((HB.out.cell (World.block_lt_of_cell? w _ hw235_1)).trans hw235_1), ((HB.out.cell (World.block_lt_of_cell? w _ hw235_2)).trans hw235_2), ((HB.out.cell (World.block_lt_of_cell? w _ hw235_3)).trans hw235_3), ((HB.out.cell (World.block_lt_of_cell? w _ hw235_4)).trans hw235_4), ((HB.out.cell (World.block_lt_of_cell? w _ hw235_5)).trans hw235_5), ((HB.out.cell (World.block_lt_of_cell? w _ hw235_6)).trans hw235_6)⟩ (fun hHeld => ?_); refine with_tabW swarfref33_Few.tab8 swarfref33_Few.bits8 (fun HT_ HW_ => ?_)
         generalize w21.drew = w22 at BK230 HB hx233_0 hx233_1 hx233_2 hx233_3 hx233_4 hx233_5 hx233_6 hx235_0 hx235_1 hx235_2 hx235_3 hx235_4 hx235_5 hx235_6 hHeld ⊢
         refine pu 0 25 (bzz 14 1) (any_of HT_.out (by kernel_rfl)) ?_
         refine pu 1 26 (bzz 14 3) (any_of HT_.out (by kernel_rfl)) ?_
         refine pu 2 27 (bzz 14 7) (any_of HT_.out (by kernel_rfl)) ?_
         refine ta 3 28 (bzz 14 15) (take_ofW HT_.out HW_.out (by kernel_rfl)) hHeld ?_
         refine one_ (i := 4) (N := some 29) (bzz 14 31) rfl rfl (one_of HT_.out (by kernel_rfl)) (by decide) (fun K hK => ?_)
         refine goes_ Try.func31 (by kernel_rfl) rfl #[.agg #[.int .i64 ((rd_T27 l1 x7_1).f0), .int .i64 ((rd_T27 l1 x7_1).f1.f0), .int .i64 ((rd_T27 l1 x7_1).f1.f1), .int .i64 ((rd_T27 l1 x7_1).f1.f2), .int .i64 ((rd_T27 l1 x7_1).f2.f0), .int .i64 ((rd_T27 l1 x7_1).f2.f1), .int .i64 ((rd_T27 l1 x7_1).f3)]] (by rfl) rfl rfl (by (try simp only [List.map_toArray, List.map_cons, List.map_nil]); first | done | rfl | (simp only [List.length_drop, List.length_take]; rfl)) ?_
         with_reducible refine (swarfref33_arc.calls ((rd_T27 l1 x7_1).f0) ((rd_T27 l1 x7_1).f1.f0) ((rd_T27 l1 x7_1).f1.f1) ((rd_T27 l1 x7_1).f1.f2) ((rd_T27 l1 x7_1).f2.f0) ((rd_T27 l1 x7_1).f2.f1) ((rd_T27 l1 x7_1).f3) true _ A11.out).mono ?_
         rintro e w23 ⟨rfl, hb⟩
         refine ⟨_, rfl, ?_⟩
         have n0_ := Aside0.mk (blk_below (by exact BK230.out) hb)
         have n1_ := Aside0.mk (below_step (by first | exact HB.out | exact pw_below_drewN HB.out _) hb)
         clear BK230
         clear HB
         have BK230 := n0_
         have HB := n1_
         clear n0_ n1_
         (try clear hb)
         (try clear hb2)
         (try clear hk)
         (try clear hi)
         refine hK.out _ _ ⟨(blk_cell BK230.out 0).trans rfl, (blk_cell BK230.out 1).trans rfl, (blk_cell BK230.out 2).trans rfl, ((HB.out.cell (World.block_lt_of_cell? w _ hw233_0)).trans hw233_0), ((HB.out.cell (World.block_lt_of_cell? w _ hw233_1)).trans hw233_1), ((HB.out.cell (World.block_lt_of_cell? w _ hw233_2)).trans hw233_2), ((HB.out.cell (World.block_lt_of_cell? w _ hw233_3)).trans hw233_3), ((HB.out.cell (World.block_lt_of_cell? w _ hw233_4)).trans hw233_4), ((HB.out.cell (World.block_lt_of_cell? w _ hw233_5)).trans hw233_5), ((HB.out.cell (World.block_lt_of_cell? w _ hw233_6)).trans hw233_6), ((HB.out.cell (World.block_lt_of_cell? w _ hw235_0)).trans hw235_0), ((HB.out.cell (World.block_lt_of_cell? w _ hw235_1)).trans hw235_1), ((HB.out.cell (World.block_lt_of_cell? w _ hw235_2)).trans hw235_2), ((HB.out.cell (World.block_lt_of_cell? w _ hw235_3)).trans hw235_3), ((HB.out.cell (World.block_lt_of_cell? w _ hw235_4)).trans hw235_4), ((HB.out.cell (World.block_lt_of_cell? w _ hw235_5)).trans hw235_5), ((HB.out.cell (World.block_lt_of_cell? w _ hw235_6)).trans hw235_6)⟩ (fun hHeld => ?_)
         clear hK K
         refine norm_ (a' := ?_) ?_ ?_
         rotate_left
         ·show Act.put _ (some 29) _ = _
          simp only [Act.put, List.setIfInBounds_toArray, List.set_cons_zero, List.set_cons_succ, i64_w, i32_w]
          rfl
         refine pu 5 30 (bzz 14 63) (any_of HT_.out (by kernel_rfl)) ?_
         refine pu 7 32 (bzz 14 191) (any_of HT_.out (by kernel_rfl)) ?_
         refine pu 8 33 (bzz 14 447) (any_of HT_.out (by kernel_rfl)) ?_
         refine pu 9 34 (bzz 14 959) (any_of HT_.out (by kernel_rfl)) ?_
         refine ta 6 31 (bzz 14 1023) (take_ofW HT_.out HW_.out (by kernel_rfl)) hHeld ?_
         refine ta 10 35 (bzz 14 2047) (take_ofW HT_.out HW_.out (by kernel_rfl)) hHeld ?_
         refine one_ (i := 11) (N := some 36) (bzz 14 4095) rfl rfl (one_of HT_.out (by kernel_rfl)) (by decide) (fun K hK => ?_)
         refine goes_ Try.func21 (by kernel_rfl) rfl #[.agg #[.int .i64 x231000_1, .int .i64 x231001_1, .int .i64 x231002_1], .agg #[.int .i64 ((rd_T27 l1 x7_1).f0), .int .i64 ((rd_T27 l1 x7_1).f1.f0), .int .i64 ((rd_T27 l1 x7_1).f1.f1), .int .i64 ((rd_T27 l1 x7_1).f1.f2), .int .i64 ((rd_T27 l1 x7_1).f2.f0), .int .i64 ((rd_T27 l1 x7_1).f2.f1), .int .i64 ((rd_T27 l1 x7_1).f3)]] (by rfl) rfl rfl (by (try simp only [List.map_toArray, List.map_cons, List.map_nil]); first | done | rfl | (simp only [List.length_drop, List.length_take]; rfl)) ?_
         with_reducible refine (swarfref33_Radius.calls x231000_1 x231001_1 x231002_1 ((rd_T27 l1 x7_1).f0) ((rd_T27 l1 x7_1).f1.f0) ((rd_T27 l1 x7_1).f1.f1) ((rd_T27 l1 x7_1).f1.f2) ((rd_T27 l1 x7_1).f2.f0) ((rd_T27 l1 x7_1).f2.f1) ((rd_T27 l1 x7_1).f3) t236 _ A13.out).mono ?_
         rintro e w24 ⟨rfl, hb⟩
         refine ⟨_, rfl, ?_⟩
         have n0_ := Aside0.mk (blk_below (by exact BK230.out) hb)
         have n1_ := Aside0.mk (below_step (by first | exact HB.out | exact pw_below_drewN HB.out _) hb)
         clear BK230
         clear HB
         have BK230 := n0_
         have HB := n1_
         clear n0_ n1_
         (try clear hb)
         (try clear hb2)
         (try clear hk)
         (try clear hi)
         refine hK.out _ _ ⟨(blk_cell BK230.out 0).trans rfl, (blk_cell BK230.out 1).trans rfl, (blk_cell BK230.out 2).trans rfl, ((HB.out.cell (World.block_lt_of_cell? w _ hw233_0)).trans hw233_0), ((HB.out.cell (World.block_lt_of_cell? w _ hw233_1)).trans hw233_1), ((HB.out.cell (World.block_lt_of_cell? w _ hw233_2)).trans hw233_2), ((HB.out.cell (World.block_lt_of_cell? w _ hw233_3)).trans hw233_3), ((HB.out.cell (World.block_lt_of_cell? w _ hw233_4)).trans hw233_4), ((HB.out.cell (World.block_lt_of_cell? w _ hw233_5)).trans hw233_5), ((HB.out.cell (World.block_lt_of_cell? w _ hw233_6)).trans hw233_6), ((HB.out.cell (World.block_lt_of_cell? w _ hw235_0)).trans hw235_0), ((HB.out.cell (World.block_lt_of_cell? w _ hw235_1)).trans hw235_1), ((HB.out.cell (World.block_lt_of_cell? w _ hw235_2)).trans hw235_2), ((HB.out.cell (World.block_lt_of_cell? w _ hw235_3)).trans hw235_3), ((HB.out.cell (World.block_lt_of_cell? w _ hw235_4)).trans hw235_4), ((HB.out.cell (World.block_lt_of_cell? w _ hw235_5)).trans hw235_5), ((HB.out.cell (World.block_lt_of_cell? w _ hw235_6)).trans hw235_6)⟩ (fun hHeld => ?_)
         clear hK K
         refine norm_ (a' := ?_) ?_ ?_
         rotate_left
         ·show Act.put _ (some 36) _ = _
          simp only [Act.put, List.setIfInBounds_toArray, List.set_cons_zero, List.set_cons_succ, i64_w, i32_w]
          rfl
         refine pu 12 37 (bzz 14 8191) (any_of HT_.out (by kernel_rfl)) ?_
         refine pu 13 38 (bzz 14 16383) (any_of HT_.out (by kernel_rfl)) ?_
         refine done_ (done_of HT_.out (by kernel_rfl)) ?_
         have p237 : 0 ≤ (x7_1 : Int) := of_decide_eq_true (by first | (with_reducible assumption) | assumption)
         have q237 : x7_1 < (l1.length : Int) := of_decide_eq_true (by first | (with_reducible assumption) | assumption)
         obtain ⟨ad237, e237, hx237_0, hx237_1, hx237_2, hx237_3, hx237_4, hx237_5, hx237_6⟩ := at_T27 HR1.out x7_1 p237 q237
         obtain rfl : ad231 = ad237 := (by injection e237)
         replace hx237_0 := (HB.out.cell (World.block_lt_of_cell? w _ hx237_0)).trans hx237_0
         replace hx237_1 := (HB.out.cell (World.block_lt_of_cell? w _ hx237_1)).trans hx237_1
         replace hx237_2 := (HB.out.cell (World.block_lt_of_cell? w _ hx237_2)).trans hx237_2
         replace hx237_3 := (HB.out.cell (World.block_lt_of_cell? w _ hx237_3)).trans hx237_3
         replace hx237_4 := (HB.out.cell (World.block_lt_of_cell? w _ hx237_4)).trans hx237_4
         replace hx237_5 := (HB.out.cell (World.block_lt_of_cell? w _ hx237_5)).trans hx237_5
         replace hx237_6 := (HB.out.cell (World.block_lt_of_cell? w _ hx237_6)).trans hx237_6
         replace p237 := eq_true p237
         replace q237 := eq_true q237
         obtain ⟨hcz25_0, hcz25_1, hcz25_2⟩ := cells3 BK230.out
         have hfz25_0 := blk_frozen BK230.out 0
         have hfz25_1 := blk_frozen BK230.out 1
         have hfz25_2 := blk_frozen BK230.out 2
         try go_wp2
         go_roundg k1
         case measure => have := HK1.out; omega
         case rel => exact ⟨(wrap64 (x7_1 + 1)), ((rd_T27 l1 x7_1).f1.f0), ((rd_T27 l1 x7_1).f1.f1), ((rd_T27 l1 x7_1).f1.f2), (by first | rfl | (simp; done) | (simp [*]; done)), H', ⟨by have := HK1.out; omega⟩, ⟨by (with_reducible repeat (first | refine blk_drewN ?_ _ | refine blk_drew ?_ | refine blk_alloc ?_ _)); refine blk_put (cs := #[.int .i64 ((rd_T27 l1 x7_1).f1.f0), .int .i64 ((rd_T27 l1 x7_1).f1.f1), .int .i64 x231002_1]) ?_ 2 _ rfl; (with_reducible repeat (first | refine blk_drewN ?_ _ | refine blk_drew ?_ | refine blk_alloc ?_ _)); refine blk_put (cs := #[.int .i64 ((rd_T27 l1 x7_1).f1.f0), .int .i64 x231001_1, .int .i64 x231002_1]) ?_ 1 _ rfl; (with_reducible repeat (first | refine blk_drewN ?_ _ | refine blk_drew ?_ | refine blk_alloc ?_ _)); refine blk_put (cs := #[.int .i64 x231000_1, .int .i64 x231001_1, .int .i64 x231002_1]) ?_ 0 _ rfl; (with_reducible repeat (first | refine blk_drewN ?_ _ | refine blk_drew ?_ | refine blk_alloc ?_ _)); exact BK230.out⟩, ⟨by repeat (first | (with_reducible first | exact HB.out | apply below_alloc | apply pw_below_drewN | apply below_drew1 | refine below_set ?_ GE230.out) | exact HB.out)⟩⟩
       ·replace c12 := Bool.eq_false_iff.mpr c12
        subst c12
        have H1 : (swarfref33_Few.l0 k1 l1 (wrap64 (x7_1 + 1)) ((rd_T27 l1 x7_1).f1.f0) ((rd_T27 l1 x7_1).f1.f1) ((rd_T27 l1 x7_1).f1.f2)) = some r := by rw [if_neg (show ¬ (false = true) by decide)] at H; exact H
        clear H
        have H := H1
        clear H1
        have H' := Aside0.mk H
        clear H
        try go_wp2
        have n0_ := Aside0.mk (blk_drew BK230.out)
        have n1_ := Aside0.mk (below_drew1 HB.out)
        clear BK230
        clear HB
        have BK230 := n0_
        have HB := n1_
        clear n0_ n1_
        have p231 : 0 ≤ (x7_1 : Int) := of_decide_eq_true (by first | (with_reducible assumption) | assumption)
        have q231 : x7_1 < (l1.length : Int) := of_decide_eq_true (by first | (with_reducible assumption) | assumption)
        obtain ⟨ad231, e231, hx231_0, hx231_1, hx231_2, hx231_3, hx231_4, hx231_5, hx231_6⟩ := at_T27 HR1.out x7_1 p231 q231
        have hw231_6 := hx231_6
        have hw231_5 := hx231_5
        have hw231_4 := hx231_4
        have hw231_3 := hx231_3
        have hw231_2 := hx231_2
        have hw231_1 := hx231_1
        have hw231_0 := hx231_0
        cases e231
        replace hx231_0 := (HB.out.cell (World.block_lt_of_cell? w _ hx231_0)).trans hx231_0
        replace hx231_1 := (HB.out.cell (World.block_lt_of_cell? w _ hx231_1)).trans hx231_1
        replace hx231_2 := (HB.out.cell (World.block_lt_of_cell? w _ hx231_2)).trans hx231_2
        replace hx231_3 := (HB.out.cell (World.block_lt_of_cell? w _ hx231_3)).trans hx231_3
        replace hx231_4 := (HB.out.cell (World.block_lt_of_cell? w _ hx231_4)).trans hx231_4
        replace hx231_5 := (HB.out.cell (World.block_lt_of_cell? w _ hx231_5)).trans hx231_5
        replace hx231_6 := (HB.out.cell (World.block_lt_of_cell? w _ hx231_6)).trans hx231_6
        replace p231 := eq_true p231
        replace q231 := eq_true q231
        refine start_ (n := 7) (S := fun w' => w'.cell? ⟨gb230, 0, none⟩ = some (.int .i64 x231000_1) ∧ w'.cell? ⟨gb230, 1, none⟩ = some (.int .i64 x231001_1) ∧ w'.cell? ⟨gb230, 2, none⟩ = some (.int .i64 x231002_1) ∧ w'.cell? (ad231.add ((x7_1).toNat * 7)) = some (.int .i64 ((rd_T27 l1 x7_1).f0)) ∧ w'.cell? ⟨(ad231.add ((x7_1).toNat * 7)).block, (ad231.add ((x7_1).toNat * 7)).off + 1, none⟩ = some (.int .i64 ((rd_T27 l1 x7_1).f1.f0)) ∧ w'.cell? ⟨(ad231.add ((x7_1).toNat * 7)).block, (ad231.add ((x7_1).toNat * 7)).off + 2, none⟩ = some (.int .i64 ((rd_T27 l1 x7_1).f1.f1)) ∧ w'.cell? ⟨(ad231.add ((x7_1).toNat * 7)).block, (ad231.add ((x7_1).toNat * 7)).off + 3, none⟩ = some (.int .i64 ((rd_T27 l1 x7_1).f1.f2)) ∧ w'.cell? ⟨(ad231.add ((x7_1).toNat * 7)).block, (ad231.add ((x7_1).toNat * 7)).off + 4, none⟩ = some (.int .i64 ((rd_T27 l1 x7_1).f2.f0)) ∧ w'.cell? ⟨(ad231.add ((x7_1).toNat * 7)).block, (ad231.add ((x7_1).toNat * 7)).off + 5, none⟩ = some (.int .i64 ((rd_T27 l1 x7_1).f2.f1)) ∧ w'.cell? ⟨(ad231.add ((x7_1).toNat * 7)).block, (ad231.add ((x7_1).toNat * 7)).off + 6, none⟩ = some (.int .i64 ((rd_T27 l1 x7_1).f3))) (ds := []) #[false, false, false, false, false, false, false] (by kernel_rfl) rfl rfl ⟨(blk_cell BK230.out 0).trans rfl, (blk_cell BK230.out 1).trans rfl, (blk_cell BK230.out 2).trans rfl, ((HB.out.cell (World.block_lt_of_cell? w _ hw231_0)).trans hw231_0), ((HB.out.cell (World.block_lt_of_cell? w _ hw231_1)).trans hw231_1), ((HB.out.cell (World.block_lt_of_cell? w _ hw231_2)).trans hw231_2), ((HB.out.cell (World.block_lt_of_cell? w _ hw231_3)).trans hw231_3), ((HB.out.cell (World.block_lt_of_cell? w _ hw231_4)).trans hw231_4), ((HB.out.cell (World.block_lt_of_cell? w _ hw231_5)).trans hw231_5), ((HB.out.cell (World.block_lt_of_cell? w _ hw231_6)).trans hw231_6)⟩ (fun hHeld => ?_)
        generalize wr.drew = w26 at BK230 HB hx231_0 hx231_1 hx231_2 hx231_3 hx231_4 hx231_5 hx231_6 hHeld ⊢
        refine pu 1 19 (bzz 7 2) (by kernel_rfl) ?_
        refine pu 2 20 (bzz 7 6) (by kernel_rfl) ?_
        refine pu 3 21 (bzz 7 14) (by kernel_rfl) ?_
        refine ta 0 18 (bzz 7 15) (by kernel_rfl) hHeld ?_
        refine ta 4 22 (bzz 7 31) (by kernel_rfl) hHeld ?_
        refine one_ (i := 5) (N := some 23) (bzz 7 63) rfl rfl (by kernel_rfl) (by decide) (fun K hK => ?_)
        refine goes_ Try.func15 (by kernel_rfl) rfl #[.agg #[.int .i64 x231000_1, .int .i64 x231001_1, .int .i64 x231002_1], .agg #[.int .i64 ((rd_T27 l1 x7_1).f0), .int .i64 ((rd_T27 l1 x7_1).f1.f0), .int .i64 ((rd_T27 l1 x7_1).f1.f1), .int .i64 ((rd_T27 l1 x7_1).f1.f2), .int .i64 ((rd_T27 l1 x7_1).f2.f0), .int .i64 ((rd_T27 l1 x7_1).f2.f1), .int .i64 ((rd_T27 l1 x7_1).f3)]] (by rfl) rfl rfl (by (try simp only [List.map_toArray, List.map_cons, List.map_nil]); first | done | rfl | (simp only [List.length_drop, List.length_take]; rfl)) ?_
        with_reducible refine (swarfref33_Valid.calls k1 x231000_1 x231001_1 x231002_1 ((rd_T27 l1 x7_1).f0) ((rd_T27 l1 x7_1).f1.f0) ((rd_T27 l1 x7_1).f1.f1) ((rd_T27 l1 x7_1).f1.f2) ((rd_T27 l1 x7_1).f2.f0) ((rd_T27 l1 x7_1).f2.f1) ((rd_T27 l1 x7_1).f3) t232 _ A9.out).mono ?_
        rintro e w27 ⟨rfl, hb⟩
        refine ⟨_, rfl, ?_⟩
        have n0_ := Aside0.mk (blk_below (by exact BK230.out) hb)
        have n1_ := Aside0.mk (below_step (by first | exact HB.out | exact pw_below_drewN HB.out _) hb)
        clear BK230
        clear HB
        have BK230 := n0_
        have HB := n1_
        clear n0_ n1_
        (try clear hb)
        (try clear hb2)
        (try clear hk)
        (try clear hi)
        refine hK.out _ _ ⟨(blk_cell BK230.out 0).trans rfl, (blk_cell BK230.out 1).trans rfl, (blk_cell BK230.out 2).trans rfl, ((HB.out.cell (World.block_lt_of_cell? w _ hw231_0)).trans hw231_0), ((HB.out.cell (World.block_lt_of_cell? w _ hw231_1)).trans hw231_1), ((HB.out.cell (World.block_lt_of_cell? w _ hw231_2)).trans hw231_2), ((HB.out.cell (World.block_lt_of_cell? w _ hw231_3)).trans hw231_3), ((HB.out.cell (World.block_lt_of_cell? w _ hw231_4)).trans hw231_4), ((HB.out.cell (World.block_lt_of_cell? w _ hw231_5)).trans hw231_5), ((HB.out.cell (World.block_lt_of_cell? w _ hw231_6)).trans hw231_6)⟩ (fun hHeld => ?_)
        clear hK K
        refine norm_ (a' := ?_) ?_ ?_
        rotate_left
        ·show Act.put _ (some 23) _ = _
         simp only [Act.put, List.setIfInBounds_toArray, List.set_cons_zero, List.set_cons_succ, i64_w, i32_w]
         rfl
        refine pu 6 24 (bzz 7 127) (by kernel_rfl) ?_
        refine done_ (by kernel_rfl) ?_
        try go_wp2
        have n0_ := Aside0.mk (blk_drew BK230.out)
        have n1_ := Aside0.mk (below_drew1 HB.out)
        clear BK230
        clear HB
        have BK230 := n0_
        have HB := n1_
        clear n0_ n1_
        have p233 : 0 ≤ (x7_1 : Int) := of_decide_eq_true (by first | (with_reducible assumption) | assumption)
        have q233 : x7_1 < (l1.length : Int) := of_decide_eq_true (by first | (with_reducible assumption) | assumption)
        obtain ⟨ad233, e233, hx233_0, hx233_1, hx233_2, hx233_3, hx233_4, hx233_5, hx233_6⟩ := at_T27 HR1.out x7_1 p233 q233
        have hw233_6 := hx233_6
        have hw233_5 := hx233_5
        have hw233_4 := hx233_4
        have hw233_3 := hx233_3
        have hw233_2 := hx233_2
        have hw233_1 := hx233_1
        have hw233_0 := hx233_0
        obtain rfl : ad231 = ad233 := (by injection e233)
        replace hx233_0 := (HB.out.cell (World.block_lt_of_cell? w _ hx233_0)).trans hx233_0
        replace hx233_1 := (HB.out.cell (World.block_lt_of_cell? w _ hx233_1)).trans hx233_1
        replace hx233_2 := (HB.out.cell (World.block_lt_of_cell? w _ hx233_2)).trans hx233_2
        replace hx233_3 := (HB.out.cell (World.block_lt_of_cell? w _ hx233_3)).trans hx233_3
        replace hx233_4 := (HB.out.cell (World.block_lt_of_cell? w _ hx233_4)).trans hx233_4
        replace hx233_5 := (HB.out.cell (World.block_lt_of_cell? w _ hx233_5)).trans hx233_5
        replace hx233_6 := (HB.out.cell (World.block_lt_of_cell? w _ hx233_6)).trans hx233_6
        replace p233 := eq_true p233
        replace q233 := eq_true q233
        refine start_ (n := 14) (S := fun w' => w'.cell? (ad231.add ((x7_1).toNat * 7)) = some (.int .i64 ((rd_T27 l1 x7_1).f0)) ∧ w'.cell? ⟨(ad231.add ((x7_1).toNat * 7)).block, (ad231.add ((x7_1).toNat * 7)).off + 1, none⟩ = some (.int .i64 ((rd_T27 l1 x7_1).f1.f0)) ∧ w'.cell? ⟨(ad231.add ((x7_1).toNat * 7)).block, (ad231.add ((x7_1).toNat * 7)).off + 2, none⟩ = some (.int .i64 ((rd_T27 l1 x7_1).f1.f1)) ∧ w'.cell? ⟨(ad231.add ((x7_1).toNat * 7)).block, (ad231.add ((x7_1).toNat * 7)).off + 3, none⟩ = some (.int .i64 ((rd_T27 l1 x7_1).f1.f2)) ∧ w'.cell? ⟨(ad231.add ((x7_1).toNat * 7)).block, (ad231.add ((x7_1).toNat * 7)).off + 4, none⟩ = some (.int .i64 ((rd_T27 l1 x7_1).f2.f0)) ∧ w'.cell? ⟨(ad231.add ((x7_1).toNat * 7)).block, (ad231.add ((x7_1).toNat * 7)).off + 5, none⟩ = some (.int .i64 ((rd_T27 l1 x7_1).f2.f1)) ∧ w'.cell? ⟨(ad231.add ((x7_1).toNat * 7)).block, (ad231.add ((x7_1).toNat * 7)).off + 6, none⟩ = some (.int .i64 ((rd_T27 l1 x7_1).f3))) (ds := []) #[false, false, false, false, false, false, false, false, false, false, false, false, false, false] (by kernel_rfl) rfl rfl ⟨((HB.out.cell (World.block_lt_of_cell? w _ hw233_0)).trans hw233_0), ((HB.out.cell (World.block_lt_of_cell? w _ hw233_1)).trans hw233_1), ((HB.out.cell (World.block_lt_of_cell? w _ hw233_2)).trans hw233_2), ((HB.out.cell (World.block_lt_of_cell? w _ hw233_3)).trans hw233_3), ((HB.out.cell (World.block_lt_of_cell? w _ hw233_4)).trans hw233_4), ((HB.out.cell (World.block_lt_of_cell? w _ hw233_5)).trans hw233_5), ((HB.out.cell (World.block_lt_of_cell? w _ hw233_6)).trans hw233_6)⟩ (fun hHeld => ?_); refine with_tabW swarfref33_Few.tab8 swarfref33_Few.bits8 (fun HT_ HW_ => ?_)
        generalize w27.drew = w28 at BK230 HB hx233_0 hx233_1 hx233_2 hx233_3 hx233_4 hx233_5 hx233_6 hHeld ⊢
        refine pu 0 25 (bzz 14 1) (any_of HT_.out (by kernel_rfl)) ?_
        refine pu 1 26 (bzz 14 3) (any_of HT_.out (by kernel_rfl)) ?_
        refine pu 2 27 (bzz 14 7) (any_of HT_.out (by kernel_rfl)) ?_
        refine ta 3 28 (bzz 14 15) (take_ofW HT_.out HW_.out (by kernel_rfl)) hHeld ?_
        refine one_ (i := 4) (N := some 29) (bzz 14 31) rfl rfl (one_of HT_.out (by kernel_rfl)) (by decide) (fun K hK => ?_)
        refine goes_ Try.func31 (by kernel_rfl) rfl #[.agg #[.int .i64 ((rd_T27 l1 x7_1).f0), .int .i64 ((rd_T27 l1 x7_1).f1.f0), .int .i64 ((rd_T27 l1 x7_1).f1.f1), .int .i64 ((rd_T27 l1 x7_1).f1.f2), .int .i64 ((rd_T27 l1 x7_1).f2.f0), .int .i64 ((rd_T27 l1 x7_1).f2.f1), .int .i64 ((rd_T27 l1 x7_1).f3)]] (by rfl) rfl rfl (by (try simp only [List.map_toArray, List.map_cons, List.map_nil]); first | done | rfl | (simp only [List.length_drop, List.length_take]; rfl)) ?_
        with_reducible refine (swarfref33_arc.calls ((rd_T27 l1 x7_1).f0) ((rd_T27 l1 x7_1).f1.f0) ((rd_T27 l1 x7_1).f1.f1) ((rd_T27 l1 x7_1).f1.f2) ((rd_T27 l1 x7_1).f2.f0) ((rd_T27 l1 x7_1).f2.f1) ((rd_T27 l1 x7_1).f3) false _ A11.out).mono ?_
        rintro e w29 ⟨rfl, hb⟩
        refine ⟨_, rfl, ?_⟩
        have n0_ := Aside0.mk (blk_below (by exact BK230.out) hb)
        have n1_ := Aside0.mk (below_step (by first | exact HB.out | exact pw_below_drewN HB.out _) hb)
        clear BK230
        clear HB
        have BK230 := n0_
        have HB := n1_
        clear n0_ n1_
        (try clear hb)
        (try clear hb2)
        (try clear hk)
        (try clear hi)
        refine hK.out _ _ ⟨((HB.out.cell (World.block_lt_of_cell? w _ hw233_0)).trans hw233_0), ((HB.out.cell (World.block_lt_of_cell? w _ hw233_1)).trans hw233_1), ((HB.out.cell (World.block_lt_of_cell? w _ hw233_2)).trans hw233_2), ((HB.out.cell (World.block_lt_of_cell? w _ hw233_3)).trans hw233_3), ((HB.out.cell (World.block_lt_of_cell? w _ hw233_4)).trans hw233_4), ((HB.out.cell (World.block_lt_of_cell? w _ hw233_5)).trans hw233_5), ((HB.out.cell (World.block_lt_of_cell? w _ hw233_6)).trans hw233_6)⟩ (fun hHeld => ?_)
        clear hK K
        refine norm_ (a' := ?_) ?_ ?_
        rotate_left
        ·show Act.put _ (some 29) _ = _
         simp only [Act.put, List.setIfInBounds_toArray, List.set_cons_zero, List.set_cons_succ, i64_w, i32_w]
         rfl
        refine pu 5 30 (bzz 14 63) (any_of HT_.out (by kernel_rfl)) ?_
        refine po 6 31 (bzz 14 127) (any_of HT_.out (by kernel_rfl)) ?_
        refine po 7 32 (bzz 14 255) (any_of HT_.out (by kernel_rfl)) ?_
        refine po 8 33 (bzz 14 511) (any_of HT_.out (by kernel_rfl)) ?_
        refine po 9 34 (bzz 14 1023) (any_of HT_.out (by kernel_rfl)) ?_
        refine po 10 35 (bzz 14 2047) (any_of HT_.out (by kernel_rfl)) ?_
        refine po 11 36 (bzz 14 4095) (any_of HT_.out (by kernel_rfl)) ?_
        refine po 12 37 (bzz 14 8191) (any_of HT_.out (by kernel_rfl)) ?_
        refine pu 13 38 (bzz 14 16383) (any_of HT_.out (by kernel_rfl)) ?_
        refine done_ (done_of HT_.out (by kernel_rfl)) ?_
        have p238 : 0 ≤ (x7_1 : Int) := of_decide_eq_true (by first | (with_reducible assumption) | assumption)
        have q238 : x7_1 < (l1.length : Int) := of_decide_eq_true (by first | (with_reducible assumption) | assumption)
        obtain ⟨ad238, e238, hx238_0, hx238_1, hx238_2, hx238_3, hx238_4, hx238_5, hx238_6⟩ := at_T27 HR1.out x7_1 p238 q238
        obtain rfl : ad231 = ad238 := (by injection e238)
        replace hx238_0 := (HB.out.cell (World.block_lt_of_cell? w _ hx238_0)).trans hx238_0
        replace hx238_1 := (HB.out.cell (World.block_lt_of_cell? w _ hx238_1)).trans hx238_1
        replace hx238_2 := (HB.out.cell (World.block_lt_of_cell? w _ hx238_2)).trans hx238_2
        replace hx238_3 := (HB.out.cell (World.block_lt_of_cell? w _ hx238_3)).trans hx238_3
        replace hx238_4 := (HB.out.cell (World.block_lt_of_cell? w _ hx238_4)).trans hx238_4
        replace hx238_5 := (HB.out.cell (World.block_lt_of_cell? w _ hx238_5)).trans hx238_5
        replace hx238_6 := (HB.out.cell (World.block_lt_of_cell? w _ hx238_6)).trans hx238_6
        replace p238 := eq_true p238
        replace q238 := eq_true q238
        obtain ⟨hcz30_0, hcz30_1, hcz30_2⟩ := cells3 BK230.out
        have hfz30_0 := blk_frozen BK230.out 0
        have hfz30_1 := blk_frozen BK230.out 1
        have hfz30_2 := blk_frozen BK230.out 2
        try go_wp2
        go_roundg k1
        case measure => have := HK1.out; omega
        case rel => exact ⟨(wrap64 (x7_1 + 1)), ((rd_T27 l1 x7_1).f1.f0), ((rd_T27 l1 x7_1).f1.f1), ((rd_T27 l1 x7_1).f1.f2), (by first | rfl | (simp; done) | (simp [*]; done)), H', ⟨by have := HK1.out; omega⟩, ⟨by (with_reducible repeat (first | refine blk_drewN ?_ _ | refine blk_drew ?_ | refine blk_alloc ?_ _)); refine blk_put (cs := #[.int .i64 ((rd_T27 l1 x7_1).f1.f0), .int .i64 ((rd_T27 l1 x7_1).f1.f1), .int .i64 x231002_1]) ?_ 2 _ rfl; (with_reducible repeat (first | refine blk_drewN ?_ _ | refine blk_drew ?_ | refine blk_alloc ?_ _)); refine blk_put (cs := #[.int .i64 ((rd_T27 l1 x7_1).f1.f0), .int .i64 x231001_1, .int .i64 x231002_1]) ?_ 1 _ rfl; (with_reducible repeat (first | refine blk_drewN ?_ _ | refine blk_drew ?_ | refine blk_alloc ?_ _)); refine blk_put (cs := #[.int .i64 x231000_1, .int .i64 x231001_1, .int .i64 x231002_1]) ?_ 0 _ rfl; (with_reducible repeat (first | refine blk_drewN ?_ _ | refine blk_drew ?_ | refine blk_alloc ?_ _)); exact BK230.out⟩, ⟨by repeat (first | (with_reducible first | exact HB.out | apply below_alloc | apply pw_below_drewN | apply below_drew1 | refine below_set ?_ GE230.out) | exact HB.out)⟩⟩
      ·rw [if_neg c10] at H
       have c10b0 : (t232 == 0) = false := beq_eq_false_iff_ne.mpr c10
       have c10b1 : (t232 != 0) = true := bne_iff_ne.mpr c10
       obtain rfl := Option.some.inj H
       try go_wp2
       have n0_ := Aside0.mk (blk_drew BK230.out)
       have n1_ := Aside0.mk (below_drew1 HB.out)
       clear BK230
       clear HB
       have BK230 := n0_
       have HB := n1_
       clear n0_ n1_
       have p231 : 0 ≤ (x7_1 : Int) := of_decide_eq_true (by first | (with_reducible assumption) | assumption)
       have q231 : x7_1 < (l1.length : Int) := of_decide_eq_true (by first | (with_reducible assumption) | assumption)
       obtain ⟨ad231, e231, hx231_0, hx231_1, hx231_2, hx231_3, hx231_4, hx231_5, hx231_6⟩ := at_T27 HR1.out x7_1 p231 q231
       have hw231_6 := hx231_6
       have hw231_5 := hx231_5
       have hw231_4 := hx231_4
       have hw231_3 := hx231_3
       have hw231_2 := hx231_2
       have hw231_1 := hx231_1
       have hw231_0 := hx231_0
       cases e231
       replace hx231_0 := (HB.out.cell (World.block_lt_of_cell? w _ hx231_0)).trans hx231_0
       replace hx231_1 := (HB.out.cell (World.block_lt_of_cell? w _ hx231_1)).trans hx231_1
       replace hx231_2 := (HB.out.cell (World.block_lt_of_cell? w _ hx231_2)).trans hx231_2
       replace hx231_3 := (HB.out.cell (World.block_lt_of_cell? w _ hx231_3)).trans hx231_3
       replace hx231_4 := (HB.out.cell (World.block_lt_of_cell? w _ hx231_4)).trans hx231_4
       replace hx231_5 := (HB.out.cell (World.block_lt_of_cell? w _ hx231_5)).trans hx231_5
       replace hx231_6 := (HB.out.cell (World.block_lt_of_cell? w _ hx231_6)).trans hx231_6
       replace p231 := eq_true p231
       replace q231 := eq_true q231
       refine start_ (n := 7) (S := fun w' => w'.cell? ⟨gb230, 0, none⟩ = some (.int .i64 x231000_1) ∧ w'.cell? ⟨gb230, 1, none⟩ = some (.int .i64 x231001_1) ∧ w'.cell? ⟨gb230, 2, none⟩ = some (.int .i64 x231002_1) ∧ w'.cell? (ad231.add ((x7_1).toNat * 7)) = some (.int .i64 ((rd_T27 l1 x7_1).f0)) ∧ w'.cell? ⟨(ad231.add ((x7_1).toNat * 7)).block, (ad231.add ((x7_1).toNat * 7)).off + 1, none⟩ = some (.int .i64 ((rd_T27 l1 x7_1).f1.f0)) ∧ w'.cell? ⟨(ad231.add ((x7_1).toNat * 7)).block, (ad231.add ((x7_1).toNat * 7)).off + 2, none⟩ = some (.int .i64 ((rd_T27 l1 x7_1).f1.f1)) ∧ w'.cell? ⟨(ad231.add ((x7_1).toNat * 7)).block, (ad231.add ((x7_1).toNat * 7)).off + 3, none⟩ = some (.int .i64 ((rd_T27 l1 x7_1).f1.f2)) ∧ w'.cell? ⟨(ad231.add ((x7_1).toNat * 7)).block, (ad231.add ((x7_1).toNat * 7)).off + 4, none⟩ = some (.int .i64 ((rd_T27 l1 x7_1).f2.f0)) ∧ w'.cell? ⟨(ad231.add ((x7_1).toNat * 7)).block, (ad231.add ((x7_1).toNat * 7)).off + 5, none⟩ = some (.int .i64 ((rd_T27 l1 x7_1).f2.f1)) ∧ w'.cell? ⟨(ad231.add ((x7_1).toNat * 7)).block, (ad231.add ((x7_1).toNat * 7)).off + 6, none⟩ = some (.int .i64 ((rd_T27 l1 x7_1).f3))) (ds := []) #[false, false, false, false, false, false, false] (by kernel_rfl) rfl rfl ⟨(blk_cell BK230.out 0).trans rfl, (blk_cell BK230.out 1).trans rfl, (blk_cell BK230.out 2).trans rfl, ((HB.out.cell (World.block_lt_of_cell? w _ hw231_0)).trans hw231_0), ((HB.out.cell (World.block_lt_of_cell? w _ hw231_1)).trans hw231_1), ((HB.out.cell (World.block_lt_of_cell? w _ hw231_2)).trans hw231_2), ((HB.out.cell (World.block_lt_of_cell? w _ hw231_3)).trans hw231_3), ((HB.out.cell (World.block_lt_of_cell? w _ hw231_4)).trans hw231_4), ((HB.out.cell (World.block_lt_of_cell? w _ hw231_5)).trans hw231_5), ((HB.out.cell (World.block_lt_of_cell? w _ hw231_6)).trans hw231_6)⟩ (fun hHeld => ?_)
       generalize wr.drew = w31 at BK230 HB hx231_0 hx231_1 hx231_2 hx231_3 hx231_4 hx231_5 hx231_6 hHeld ⊢
       refine pu 1 19 (bzz 7 2) (by kernel_rfl) ?_
       refine pu 2 20 (bzz 7 6) (by kernel_rfl) ?_
       refine pu 3 21 (bzz 7 14) (by kernel_rfl) ?_
       refine ta 0 18 (bzz 7 15) (by kernel_rfl) hHeld ?_
       refine ta 4 22 (bzz 7 31) (by kernel_rfl) hHeld ?_
       refine one_ (i := 5) (N := some 23) (bzz 7 63) rfl rfl (by kernel_rfl) (by decide) (fun K hK => ?_)
       refine goes_ Try.func15 (by kernel_rfl) rfl #[.agg #[.int .i64 x231000_1, .int .i64 x231001_1, .int .i64 x231002_1], .agg #[.int .i64 ((rd_T27 l1 x7_1).f0), .int .i64 ((rd_T27 l1 x7_1).f1.f0), .int .i64 ((rd_T27 l1 x7_1).f1.f1), .int .i64 ((rd_T27 l1 x7_1).f1.f2), .int .i64 ((rd_T27 l1 x7_1).f2.f0), .int .i64 ((rd_T27 l1 x7_1).f2.f1), .int .i64 ((rd_T27 l1 x7_1).f3)]] (by rfl) rfl rfl (by (try simp only [List.map_toArray, List.map_cons, List.map_nil]); first | done | rfl | (simp only [List.length_drop, List.length_take]; rfl)) ?_
       with_reducible refine (swarfref33_Valid.calls k1 x231000_1 x231001_1 x231002_1 ((rd_T27 l1 x7_1).f0) ((rd_T27 l1 x7_1).f1.f0) ((rd_T27 l1 x7_1).f1.f1) ((rd_T27 l1 x7_1).f1.f2) ((rd_T27 l1 x7_1).f2.f0) ((rd_T27 l1 x7_1).f2.f1) ((rd_T27 l1 x7_1).f3) t232 _ A9.out).mono ?_
       rintro e w32 ⟨rfl, hb⟩
       refine ⟨_, rfl, ?_⟩
       have n0_ := Aside0.mk (blk_below (by exact BK230.out) hb)
       have n1_ := Aside0.mk (below_step (by first | exact HB.out | exact pw_below_drewN HB.out _) hb)
       clear BK230
       clear HB
       have BK230 := n0_
       have HB := n1_
       clear n0_ n1_
       (try clear hb)
       (try clear hb2)
       (try clear hk)
       (try clear hi)
       refine hK.out _ _ ⟨(blk_cell BK230.out 0).trans rfl, (blk_cell BK230.out 1).trans rfl, (blk_cell BK230.out 2).trans rfl, ((HB.out.cell (World.block_lt_of_cell? w _ hw231_0)).trans hw231_0), ((HB.out.cell (World.block_lt_of_cell? w _ hw231_1)).trans hw231_1), ((HB.out.cell (World.block_lt_of_cell? w _ hw231_2)).trans hw231_2), ((HB.out.cell (World.block_lt_of_cell? w _ hw231_3)).trans hw231_3), ((HB.out.cell (World.block_lt_of_cell? w _ hw231_4)).trans hw231_4), ((HB.out.cell (World.block_lt_of_cell? w _ hw231_5)).trans hw231_5), ((HB.out.cell (World.block_lt_of_cell? w _ hw231_6)).trans hw231_6)⟩ (fun hHeld => ?_)
       clear hK K
       refine norm_ (a' := ?_) ?_ ?_
       rotate_left
       ·show Act.put _ (some 23) _ = _
        simp only [Act.put, List.setIfInBounds_toArray, List.set_cons_zero, List.set_cons_succ, i64_w, i32_w]
        rfl
       refine pu 6 24 (bzz 7 127) (by kernel_rfl) ?_
       refine done_ (by kernel_rfl) ?_
       try go_wp2
       go_ret
       exact ⟨by first | rfl | (simp [errW_none, errW_some] <;> rfl) | (simp [*, errW_none, errW_some] <;> rfl), by repeat (first | (with_reducible first | exact HB.out | apply below_alloc | apply pw_below_drewN | apply below_drew1 | refine below_set ?_ GE230.out) | exact HB.out)⟩
     ·rw [if_neg c8] at H
      exact absurd H (by simp)
    ·rw [if_neg c7] at H
     have c7b0 : decide (x7_1 < (l1.length : Int)) = false := decide_eq_false c7
     clear c7
     obtain rfl := Option.some.inj H
     go_wp2
     go_ret
     exact ⟨by first | rfl | (simp [errW_none, errW_some] <;> rfl) | (simp [*, errW_none, errW_some] <;> rfl), by repeat (first | (with_reducible first | exact HB.out | apply below_alloc | apply pw_below_drewN | apply below_drew1 | refine below_set ?_ GE230.out) | exact HB.out)⟩
end Go.Proofs.Ytblonchpophnkaa.F
