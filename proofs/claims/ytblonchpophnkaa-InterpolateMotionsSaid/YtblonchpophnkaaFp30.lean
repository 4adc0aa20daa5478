-- The machine side of a proof, written by a program of the session out of Lean's print of the loaded functions. Lean checks it.
import Derived.Test.YtblonchpophnkaaWc
import Derived.Test.YtblonchpophnkaaWp
import Derived.Test.YtblonchpophnkaaFx0
import Derived.Test.YtblonchpophnkaaFx14
import Derived.Test.YtblonchpophnkaaFx19
import Derived.Test.YtblonchpophnkaaFx29
namespace Go.Proofs.Ytblonchpophnkaa.F
open Go.RowKit Go.Proofs.YtblonchpophnkaaW.PrintWords Go.Proofs.YtblonchpophnkaaW.PrintLast Go.Proofs.YtblonchpophnkaaW.PrintMore
attribute [local go_sem] max2_int min2_int max_two min_two max_three min_three max_four min_four   -- for this text's walks alone
set_option linter.unusedVariables false
set_option linter.unusedSimpArgs false
def swarfref33_Positions.l0 : Nat → List (S27) → List (S23) → Int → Int → Int → Int → Option ((List (S23)) × Int)
 | 0, _, _, _, _, _, _ => none
 | k + 1, x1, x6, x7, x247000, x247001, x247002 => if x7 < (x1.length : Int) then (if 0 ≤ x7 then ((swarfref33_Valid.f k x247000 x247001 x247002 ((rd_T27 x1 x7).f0) ((rd_T27 x1 x7).f1.f0) ((rd_T27 x1 x7).f1.f1) ((rd_T27 x1 x7).f1.f2) ((rd_T27 x1 x7).f2.f0) ((rd_T27 x1 x7).f2.f1) ((rd_T27 x1 x7).f3)).bind fun t248 => (if t248 = 0 then ((swarfref33_arc.f ((rd_T27 x1 x7).f0) ((rd_T27 x1 x7).f1.f0) ((rd_T27 x1 x7).f1.f1) ((rd_T27 x1 x7).f1.f2) ((rd_T27 x1 x7).f2.f0) ((rd_T27 x1 x7).f2.f1) ((rd_T27 x1 x7).f3)).bind fun t250 => (if t250 = true then ((swarfref33_Arc.f k x247000 x247001 x247002 ((rd_T27 x1 x7).f0) ((rd_T27 x1 x7).f1.f0) ((rd_T27 x1 x7).f1.f1) ((rd_T27 x1 x7).f1.f2) ((rd_T27 x1 x7).f2.f0) ((rd_T27 x1 x7).f2.f1) ((rd_T27 x1 x7).f3)).bind fun bt252 => (if x6.length + bt252.1.length < 5864062014805 then (swarfref33_Positions.l0 k x1 (x6 ++ bt252.1) (wrap64 (x7 + 1)) ((rd_T27 x1 x7).f1.f0) ((rd_T27 x1 x7).f1.f1) ((rd_T27 x1 x7).f1.f2)) else (none))) else (if x6.length < 5864062014805 then (swarfref33_Positions.l0 k x1 (x6 ++ [(⟨(rd_T27 x1 x7).f1.f0, (rd_T27 x1 x7).f1.f1, (rd_T27 x1 x7).f1.f2⟩ : S23)]) (wrap64 (x7 + 1)) ((rd_T27 x1 x7).f1.f0) ((rd_T27 x1 x7).f1.f1) ((rd_T27 x1 x7).f1.f2)) else (none)))) else (some (([] : List (S23)), t248)))) else (none)) else (if (x6.length : Int) > 20000 then (some (([] : List (S23)), 3)) else (some (x6, 0)))
def swarfref33_Positions.f (k : Nat) (a0_0 : Int) (a0_1 : Int) (a0_2 : Int) (l1 : List (S27)) : Option ((List (S23)) × Int) := swarfref33_Positions.l0 k l1 ([] : List (S23)) 0 a0_0 a0_1 a0_2
theorem swarfref33_Positions.mono_l : ∀ k, (∀ y0 y1 y2 y3 y4 y5, LeO (swarfref33_Positions.l0 k y0 y1 y2 y3 y4 y5) (swarfref33_Positions.l0 (k + 1) y0 y1 y2 y3 y4 y5))
 | 0 => fun _ _ _ _ _ _ r h => by simp [swarfref33_Positions.l0] at h
 | k + 1 => by
  have ih0 := swarfref33_Positions.mono_l k
  ·intro y0 y1 y2 y3 y4 y5
   unfold swarfref33_Positions.l0
   repeat' first
   | (with_reducible exact ih0 _ _ _ _ _ _)
   | (with_reducible exact swarfref33_Arc.mono _ _ _ _ _ _ _ _ _ _ _)
   | (with_reducible exact swarfref33_Valid.mono _ _ _ _ _ _ _ _ _ _ _)
   | (with_reducible exact LeO.refl _)
   | (with_reducible exact LeO.none _)
   | (with_reducible refine LeO.ite ?_ ?_)
   | (with_reducible refine LeO.bind ?_ (fun _ => ?_))
   | exact ih0 _ _ _ _ _ _
   | exact swarfref33_Arc.mono _ _ _ _ _ _ _ _ _ _ _
   | exact swarfref33_Valid.mono _ _ _ _ _ _ _ _ _ _ _
   | exact LeO.none _
   | refine LeO.ite ?_ ?_
   | refine LeO.bind ?_ (fun _ => ?_)
theorem swarfref33_Positions.mono : ∀ a0 a1 a2 a3 k, LeO (swarfref33_Positions.f k a0 a1 a2 a3) (swarfref33_Positions.f (k + 1) a0 a1 a2 a3) := by
 intro a0 a1 a2 a3 k
 have ih0 := swarfref33_Positions.mono_l k
 unfold swarfref33_Positions.f
 repeat' first
   | (with_reducible exact ih0 _ _ _ _ _ _)
   | (with_reducible exact swarfref33_Arc.mono _ _ _ _ _ _ _ _ _ _ _)
   | (with_reducible exact swarfref33_Valid.mono _ _ _ _ _ _ _ _ _ _ _)
   | (with_reducible exact LeO.refl _)
   | (with_reducible exact LeO.none _)
   | (with_reducible refine LeO.ite ?_ ?_)
   | (with_reducible refine LeO.bind ?_ (fun _ => ?_))
   | exact ih0 _ _ _ _ _ _
   | exact swarfref33_Arc.mono _ _ _ _ _ _ _ _ _ _ _
   | exact swarfref33_Valid.mono _ _ _ _ _ _ _ _ _ _ _
   | exact LeO.none _
   | refine LeO.ite ?_ ?_
   | refine LeO.bind ?_ (fun _ => ?_)
def swarfref33_Positions.T9 : Bool × List (List Nat × List Nat) := (true, [([], []), ([], []), ([], []), ([1, 2], [1, 2]), ([3], [3]), ([0, 4], [0, 4]), ([5], [5]), ([6], [6]), ([6], [6]), ([7, 5, 0, 1, 2, 3, 4, 5, 6, 7], [7]), ([8, 9, 0, 1, 2, 3, 4, 5, 6, 7, 8, 9], [8])])
def swarfref33_Positions.B9 : List Nat := [0, 0, 0, 6, 14, 31, 63, 127, 127, 255, 1023]
theorem swarfref33_Positions.tab9 : rtab .any (opsOf Try.f24 9) = swarfref33_Positions.T9 := by kernel_rfl
theorem swarfref33_Positions.bits9 : waitsOk swarfref33_Positions.T9.2 swarfref33_Positions.B9 = true := by kernel_rfl
set_option maxHeartbeats 8000000 in
set_option maxRecDepth 100000 in
theorem swarfref33_Positions.calls (k : Nat) (a0_0 : Int) (a0_1 : Int) (a0_2 : Int) (A1 : Option Addr) (c1 : Nat) (l1 : List (S27)) (r1 : List (S23)) (r2 : Int) (w : World) (hr1 : Kd.C k27 w A1 l1.length l1) (hc1 : l1.length ≤ c1) (h : swarfref33_Positions.f k a0_0 a0_1 a0_2 l1 = some (r1, r2)) :
  Calls Try.prog 24 #[.agg #[.int .i64 a0_0, .int .i64 a0_1, .int .i64 a0_2], .slice A1 l1.length c1] w fun e w' => ∃ v0_ : Value, e = .returned (.tuple #[v0_, .int .i64 r2]) ∧ Kd.R k23 23 w' w.heap.size (fun _ => True) v0_ r1 ∧ Below w.heap.size w w' := by
 have hu23 := Try.underlying23
 have hu27 := Try.underlying27
 have HR1 := Aside0.mk hr1
 have HC1 := Aside0.mk hc1
 clear hr1 hc1
 have HB := Aside0.mk (Below.refl w.heap.size w)
 have H : (swarfref33_Positions.l0 k l1 ([] : List (S23)) 0 a0_0 a0_1 a0_2) = some (r1, r2) := h
 clear h
 have H' := Aside0.mk H
 clear H
 go_enter Try.func24, Try.ntmps24
 go_wp2_with (first | ((with_reducible refine gate_dst (N := 2) rfl ?_); refine box_event ?hg (N := 2) ?hd (cs := #[.int .i64 a0_0, .int .i64 a0_1, .int .i64 a0_2]) (t := 23) ?hr ?_; (case hd => rfl); (case hg => rfl); (case hr => first | (go_simp; done) | (go_simp; rfl)); intro gb246 hg w3 hbox hb; have n0_ := Aside0.mk (below_step (by first | exact HB.out | exact pw_below_drewN HB.out _) hb); have n1_ := Aside0.mk (hbox); have n2_ := Aside0.mk ((by rw [hg]; exact (below_size (by first | exact HB.out | exact pw_below_drewN HB.out _)) : w.heap.size ≤ gb246)); have n3_ := Aside0.mk ((by rw [hg]; exact (below_size (by first | exact HB.out | exact pw_below_drewN HB.out _)) : w.heap.size ≤ gb246)); clear HB; have HB := n0_; have BK246 := n1_; have GW246 := n2_; have GE246 := n3_; clear n0_ n1_ n2_ n3_; clear hb hbox hg))
 go_loopg [6, 7] k (fun kq v6 v7 w' => ∃ (x6_1 : List (S23)) (x7_1 : Int) (x247000_1 : Int) (x247001_1 : Int) (x247002_1 : Int), v7 = .int .i64 x7_1 ∧ Aside0 (swarfref33_Positions.l0 kq l1 x6_1 x7_1 x247000_1 x247001_1 x247002_1 = some (r1, r2)) ∧ Aside0 (kq ≤ k) ∧ Aside0 (Kd.R k23 23 w' w.heap.size (fun k_ => k_ ≠ gb246) v6 x6_1) ∧ Aside0 (w'.heap[gb246]? = some (.cells #[.int .i64 x247000_1, .int .i64 x247001_1, .int .i64 x247002_1] 23 (0, 0))) ∧ Aside0 (Below w.heap.size w w'))
 case atStart => exact ⟨(([] : List (S23))), (0), (a0_0), (a0_1), (a0_2), (by first | rfl | (simp; done) | (simp [*]; done)), H', ⟨Nat.le_refl _⟩, ⟨by first | exact Kd.R_nil _ _ _ _ _ | exact Kd.N_nil _ _ _ _ _ | exact Kd.V_nil _ _ _ _ _ | exact Kd.Q_nil _ _ _ _ _ | exact Kd.S_nil _ _ _ _ _⟩, ⟨by (with_reducible repeat (first | refine blk_drewN ?_ _ | refine blk_drew ?_ | refine blk_alloc ?_ _)); exact BK246.out⟩, ⟨by repeat (first | (with_reducible first | exact HB.out | apply below_alloc | apply pw_below_drewN | apply below_drew1 | refine below_set ?_ GE246.out) | exact HB.out)⟩⟩
 case round =>
  clear H'
  try clear c1
  try clear c2
  try clear p2
  obtain ⟨x6_1, x7_1, x247000_1, x247001_1, x247002_1, rfl, HA, HK1, HO_6, BK246, HB⟩ := hrel
  cases gk with
  | zero => exact absurd HA.out (by simp [swarfref33_Positions.l0])
  | succ k1 =>
   have H := HA.out
   clear HA
   simp only [swarfref33_Positions.l0] at H
   by_cases c4 : x7_1 < (l1.length : Int)
   ·rw [if_pos c4] at H
    have c4b0 : decide (x7_1 < (l1.length : Int)) = true := decide_eq_true c4
    clear c4
    by_cases c5 : 0 ≤ x7_1
    ·rw [if_pos c5] at H
     have c5b0 : decide (0 ≤ x7_1) = true := decide_eq_true c5
     clear c5
     replace H := Option.bind_eq_some_iff.mp H
     obtain ⟨t248, A60, H⟩ := H
     replace H : (if t248 = 0 then ((swarfref33_arc.f ((rd_T27 l1 x7_1).f0) ((rd_T27 l1 x7_1).f1.f0) ((rd_T27 l1 x7_1).f1.f1) ((rd_T27 l1 x7_1).f1.f2) ((rd_T27 l1 x7_1).f2.f0) ((rd_T27 l1 x7_1).f2.f1) ((rd_T27 l1 x7_1).f3)).bind fun t250 => (if t250 = true then ((swarfref33_Arc.f k1 x247000_1 x247001_1 x247002_1 ((rd_T27 l1 x7_1).f0) ((rd_T27 l1 x7_1).f1.f0) ((rd_T27 l1 x7_1).f1.f1) ((rd_T27 l1 x7_1).f1.f2) ((rd_T27 l1 x7_1).f2.f0) ((rd_T27 l1 x7_1).f2.f1) ((rd_T27 l1 x7_1).f3)).bind fun bt252 => (if x6_1.length + bt252.1.length < 5864062014805 then (swarfref33_Positions.l0 k1 l1 (x6_1 ++ bt252.1) (wrap64 (x7_1 + 1)) ((rd_T27 l1 x7_1).f1.f0) ((rd_T27 l1 x7_1).f1.f1) ((rd_T27 l1 x7_1).f1.f2)) else (none))) else (if x6_1.length < 5864062014805 then (swarfref33_Positions.l0 k1 l1 (x6_1 ++ [(⟨(rd_T27 l1 x7_1).f1.f0, (rd_T27 l1 x7_1).f1.f1, (rd_T27 l1 x7_1).f1.f2⟩ : S23)]) (wrap64 (x7_1 + 1)) ((rd_T27 l1 x7_1).f1.f0) ((rd_T27 l1 x7_1).f1.f1) ((rd_T27 l1 x7_1).f1.f2)) else (none)))) else (some (([] : List (S23)), t248))) = some (r1, r2) := H
     have A6 := Aside0.mk A60
     clear A60
     by_cases c7 : t248 = 0
     ·rw [if_pos c7] at H
      have c7b0 : (t248 == 0) = true := beq_iff_eq.mpr c7
      have c7b1 : (t248 != 0) = false := bne_eq_false_iff_eq.mpr c7
      clear c7
      replace H := Option.bind_eq_some_iff.mp H
      obtain ⟨t250, A80, H⟩ := H
      replace H : (if t250 = true then ((swarfref33_Arc.f k1 x247000_1 x247001_1 x247002_1 ((rd_T27 l1 x7_1).f0) ((rd_T27 l1 x7_1).f1.f0) ((rd_T27 l1 x7_1).f1.f1) ((rd_T27 l1 x7_1).f1.f2) ((rd_T27 l1 x7_1).f2.f0) ((rd_T27 l1 x7_1).f2.f1) ((rd_T27 l1 x7_1).f3)).bind fun bt252 => (if x6_1.length + bt252.1.length < 5864062014805 then (swarfref33_Positions.l0 k1 l1 (x6_1 ++ bt252.1) (wrap64 (x7_1 + 1)) ((rd_T27 l1 x7_1).f1.f0) ((rd_T27 l1 x7_1).f1.f1) ((rd_T27 l1 x7_1).f1.f2)) else (none))) else (if x6_1.length < 5864062014805 then (swarfref33_Positions.l0 k1 l1 (x6_1 ++ [(⟨(rd_T27 l1 x7_1).f1.f0, (rd_T27 l1 x7_1).f1.f1, (rd_T27 l1 x7_1).f1.f2⟩ : S23)]) (wrap64 (x7_1 + 1)) ((rd_T27 l1 x7_1).f1.f0) ((rd_T27 l1 x7_1).f1.f1) ((rd_T27 l1 x7_1).f1.f2)) else (none))) = some (r1, r2) := H
      have A8 := Aside0.mk A80
      clear A80
      by_cases c9 : t250 = true
      ·subst c9
       have H1 : ((swarfref33_Arc.f k1 x247000_1 x247001_1 x247002_1 ((rd_T27 l1 x7_1).f0) ((rd_T27 l1 x7_1).f1.f0) ((rd_T27 l1 x7_1).f1.f1) ((rd_T27 l1 x7_1).f1.f2) ((rd_T27 l1 x7_1).f2.f0) ((rd_T27 l1 x7_1).f2.f1) ((rd_T27 l1 x7_1).f3)).bind fun bt252 => (if x6_1.length + bt252.1.length < 5864062014805 then (swarfref33_Positions.l0 k1 l1 (x6_1 ++ bt252.1) (wrap64 (x7_1 + 1)) ((rd_T27 l1 x7_1).f1.f0) ((rd_T27 l1 x7_1).f1.f1) ((rd_T27 l1 x7_1).f1.f2)) else (none))) = some (r1, r2) := by rw [if_pos rfl] at H; exact H
       clear H
       have H := H1
       clear H1
       replace H := Option.bind_eq_some_iff.mp H
       obtain ⟨⟨t252, t255⟩, A100, H⟩ := H
       replace H : (if x6_1.length + t252.length < 5864062014805 then (swarfref33_Positions.l0 k1 l1 (x6_1 ++ t252) (wrap64 (x7_1 + 1)) ((rd_T27 l1 x7_1).f1.f0) ((rd_T27 l1 x7_1).f1.f1) ((rd_T27 l1 x7_1).f1.f2)) else (none)) = some (r1, r2) := H
       have A10 := Aside0.mk A100
       clear A100
       by_cases c11 : x6_1.length + t252.length < 5864062014805
       ·rw [if_pos c11] at H
        have LMc11 := Aside0.mk c11
        clear c11
        obtain ⟨y256, hy256⟩ : ∃ y_ : List (S23), y_ = (x6_1 ++ t252) := ⟨_, rfl⟩
        replace H : (swarfref33_Positions.l0 k1 l1 y256 (wrap64 (x7_1 + 1)) ((rd_T27 l1 x7_1).f1.f0) ((rd_T27 l1 x7_1).f1.f1) ((rd_T27 l1 x7_1).f1.f2)) = some (r1, r2) := by first | (rw [hy256]; with_reducible exact H) | (have H2_ := (Option.bind_some _ _).symm.trans H; rw [hy256]; with_reducible exact H2_) | (have H2_ := (Option.bind_some _ _).symm.trans H; with_reducible exact H2_) | with_reducible exact H | (rw [hy256]; exact H) | exact H
        have Ny256 := Aside0.mk hy256
        clear hy256
        have H' := Aside0.mk H
        clear H
        try go_wp2
        have n0_ := Aside0.mk (Kd.R_drew HO_6.out)
        have n1_ := Aside0.mk (blk_drew BK246.out)
        have n2_ := Aside0.mk (below_drew1 HB.out)
        clear HO_6
        clear BK246
        clear HB
        have HO_6 := n0_
        have BK246 := n1_
        have HB := n2_
        clear n0_ n1_ n2_
        have p247 : 0 ≤ (x7_1 : Int) := of_decide_eq_true (by first | (with_reducible assumption) | assumption)
        have q247 : x7_1 < (l1.length : Int) := of_decide_eq_true (by first | (with_reducible assumption) | assumption)
        obtain ⟨ad247, e247, hx247_0, hx247_1, hx247_2, hx247_3, hx247_4, hx247_5, hx247_6⟩ := at_T27 HR1.out x7_1 p247 q247
        have hw247_6 := hx247_6
        have hw247_5 := hx247_5
        have hw247_4 := hx247_4
        have hw247_3 := hx247_3
        have hw247_2 := hx247_2
        have hw247_1 := hx247_1
        have hw247_0 := hx247_0
        cases e247
        replace hx247_0 := (HB.out.cell (World.block_lt_of_cell? w _ hx247_0)).trans hx247_0
        replace hx247_1 := (HB.out.cell (World.block_lt_of_cell? w _ hx247_1)).trans hx247_1
        replace hx247_2 := (HB.out.cell (World.block_lt_of_cell? w _ hx247_2)).trans hx247_2
        replace hx247_3 := (HB.out.cell (World.block_lt_of_cell? w _ hx247_3)).trans hx247_3
        replace hx247_4 := (HB.out.cell (World.block_lt_of_cell? w _ hx247_4)).trans hx247_4
        replace hx247_5 := (HB.out.cell (World.block_lt_of_cell? w _ hx247_5)).trans hx247_5
        replace hx247_6 := (HB.out.cell (World.block_lt_of_cell? w _ hx247_6)).trans hx247_6
        replace p247 := eq_true p247
        replace q247 := eq_true q247
        refine start_ (n := 7) (S := fun w' => w'.cell? ⟨gb246, 0, none⟩ = some (.int .i64 x247000_1) ∧ w'.cell? ⟨gb246, 1, none⟩ = some (.int .i64 x247001_1) ∧ w'.cell? ⟨gb246, 2, none⟩ = some (.int .i64 x247002_1) ∧ w'.cell? (ad247.add ((x7_1).toNat * 7)) = some (.int .i64 ((rd_T27 l1 x7_1).f0)) ∧ w'.cell? ⟨(ad247.add ((x7_1).toNat * 7)).block, (ad247.add ((x7_1).toNat * 7)).off + 1, none⟩ = some (.int .i64 ((rd_T27 l1 x7_1).f1.f0)) ∧ w'.cell? ⟨(ad247.add ((x7_1).toNat * 7)).block, (ad247.add ((x7_1).toNat * 7)).off + 2, none⟩ = some (.int .i64 ((rd_T27 l1 x7_1).f1.f1)) ∧ w'.cell? ⟨(ad247.add ((x7_1).toNat * 7)).block, (ad247.add ((x7_1).toNat * 7)).off + 3, none⟩ = some (.int .i64 ((rd_T27 l1 x7_1).f1.f2)) ∧ w'.cell? ⟨(ad247.add ((x7_1).toNat * 7)).block, (ad247.add ((x7_1).toNat * 7)).off + 4, none⟩ = some (.int .i64 ((rd_T27 l1 x7_1).f2.f0)) ∧ w'.cell? ⟨(ad247.add ((x7_1).toNat * 7)).block, (ad247.add ((x7_1).toNat * 7)).off + 5, none⟩ = some (.int .i64 ((rd_T27 l1 x7_1).f2.f1)) ∧ w'.cell? ⟨(ad247.add ((x7_1).toNat * 7)).block, (ad247.add ((x7_1).toNat * 7)).off + 6, none⟩ = some (.int .i64 ((rd_T27 l1 x7_1).f3))) (ds := []) #[false, false, false, false, false, false, false] (by kernel_rfl) rfl rfl ⟨(blk_cell BK246.out 0).trans rfl, (blk_cell BK246.out 1).trans rfl, (blk_cell BK246.out 2).trans rfl, ((HB.out.cell (World.block_lt_of_cell? w _ hw247_0)).trans hw247_0), ((HB.out.cell (World.block_lt_of_cell? w _ hw247_1)).trans hw247_1), ((HB.out.cell (World.block_lt_of_cell? w _ hw247_2)).trans hw247_2), ((HB.out.cell (World.block_lt_of_cell? w _ hw247_3)).trans hw247_3), ((HB.out.cell (World.block_lt_of_cell? w _ hw247_4)).trans hw247_4), ((HB.out.cell (World.block_lt_of_cell? w _ hw247_5)).trans hw247_5), ((HB.out.cell (World.block_lt_of_cell? w _ hw247_6)).trans hw247_6)⟩ (fun hHeld => ?_)
        generalize wr.drew = w12 at HO_6 BK246 HB hx247_0 hx247_1 hx247_2 hx247_3 hx247_4 hx247_5 hx247_6 hHeld ⊢
        refine pu 1 18 (bzz 7 2) (by kernel_rfl) ?_
        refine pu 2 19 (bzz 7 6) (by kernel_rfl) ?_
        refine pu 3 20 (bzz 7 14) (by kernel_rfl) ?_
        refine ta 0 17 (bzz 7 15) (by kernel_rfl) hHeld ?_
        refine ta 4 21 (bzz 7 31) (by kernel_rfl) hHeld ?_
        refine one_ (i := 5) (N := some 22) (bzz 7 63) rfl rfl (by kernel_rfl) (by decide) (fun K hK => ?_)
        refine goes_ Try.func15 (by kernel_rfl) rfl #[.agg #[.int .i64 x247000_1, .int .i64 x247001_1, .int .i64 x247002_1], .agg #[.int .i64 ((rd_T27 l1 x7_1).f0), .int .i64 ((rd_T27 l1 x7_1).f1.f0), .int .i64 ((rd_T27 l1 x7_1).f1.f1), .int .i64 ((rd_T27 l1 x7_1).f1.f2), .int .i64 ((rd_T27 l1 x7_1).f2.f0), .int .i64 ((rd_T27 l1 x7_1).f2.f1), .int .i64 ((rd_T27 l1 x7_1).f3)]] (by rfl) rfl rfl (by (try simp only [List.map_toArray, List.map_cons, List.map_nil]); first | done | rfl | (simp only [List.length_drop, List.length_take]; rfl)) ?_
        with_reducible refine (swarfref33_Valid.calls k1 x247000_1 x247001_1 x247002_1 ((rd_T27 l1 x7_1).f0) ((rd_T27 l1 x7_1).f1.f0) ((rd_T27 l1 x7_1).f1.f1) ((rd_T27 l1 x7_1).f1.f2) ((rd_T27 l1 x7_1).f2.f0) ((rd_T27 l1 x7_1).f2.f1) ((rd_T27 l1 x7_1).f3) t248 _ A6.out).mono ?_
        rintro e w13 ⟨rfl, hb⟩
        refine ⟨_, rfl, ?_⟩
        have n0_ := Aside0.mk (Kd.R_below (by first | exact HO_6.out | exact Kd.R_drewN HO_6.out _) hb)
        have n1_ := Aside0.mk (blk_below (by exact BK246.out) hb)
        have n2_ := Aside0.mk (below_step (by first | exact HB.out | exact pw_below_drewN HB.out _) hb)
        clear HO_6
        clear BK246
        clear HB
        have HO_6 := n0_
        have BK246 := n1_
        have HB := n2_
        clear n0_ n1_ n2_
        (try clear hb)
        (try clear hb2)
        (try clear hk)
        (try clear hi)
        refine hK.out _ _ ⟨(blk_cell BK246.out 0).trans rfl, (blk_cell BK246.out 1).trans rfl, (blk_cell BK246.out 2).trans rfl, ((HB.out.cell (World.block_lt_of_cell? w _ hw247_0)).trans hw247_0), ((HB.out.cell (World.block_lt_of_cell? w _ hw247_1)).trans hw247_1), ((HB.out.cell (World.block_lt_of_cell? w _ hw247_2)).trans hw247_2), ((HB.out.cell (World.block_lt_of_cell? w _ hw247_3)).trans hw247_3), ((HB.out.cell (World.block_lt_of_cell? w _ hw247_4)).trans hw247_4), ((HB.out.cell (World.block_lt_of_cell? w _ hw247_5)).trans hw247_5), ((HB.out.cell (World.block_lt_of_cell? w _ hw247_6)).trans hw247_6)⟩ (fun hHeld => ?_)
        clear hK K
        refine norm_ (a' := ?_) ?_ ?_
        rotate_left
        ·show Act.put _ (some 22) _ = _
         simp only [Act.put, List.setIfInBounds_toArray, List.set_cons_zero, List.set_cons_succ, i64_w, i32_w]
         rfl
        refine pu 6 8 (bzz 7 127) (by kernel_rfl) ?_
        refine done_ (by kernel_rfl) ?_
        have p249 : 0 ≤ (x7_1 : Int) := of_decide_eq_true (by first | (with_reducible assumption) | assumption)
        have q249 : x7_1 < (l1.length : Int) := of_decide_eq_true (by first | (with_reducible assumption) | assumption)
        obtain ⟨ad249, e249, hx249_0, hx249_1, hx249_2, hx249_3, hx249_4, hx249_5, hx249_6⟩ := at_T27 HR1.out x7_1 p249 q249
        obtain rfl : ad247 = ad249 := (by injection e249)
        replace hx249_0 := (HB.out.cell (World.block_lt_of_cell? w _ hx249_0)).trans hx249_0
        replace hx249_1 := (HB.out.cell (World.block_lt_of_cell? w _ hx249_1)).trans hx249_1
        replace hx249_2 := (HB.out.cell (World.block_lt_of_cell? w _ hx249_2)).trans hx249_2
        replace hx249_3 := (HB.out.cell (World.block_lt_of_cell? w _ hx249_3)).trans hx249_3
        replace hx249_4 := (HB.out.cell (World.block_lt_of_cell? w _ hx249_4)).trans hx249_4
        replace hx249_5 := (HB.out.cell (World.block_lt_of_cell? w _ hx249_5)).trans hx249_5
        replace hx249_6 := (HB.out.cell (World.block_lt_of_cell? w _ hx249_6)).trans hx249_6
        replace p249 := eq_true p249
        replace q249 := eq_true q249
        try go_wp2_with (first | ((with_reducible refine gate_callee (f := 31) rfl ?_); refine goesL_ (some 30) rfl rfl Try.func31 (by kernel_rfl) rfl #[.agg #[.int .i64 ((rd_T27 l1 x7_1).f0), .int .i64 ((rd_T27 l1 x7_1).f1.f0), .int .i64 ((rd_T27 l1 x7_1).f1.f1), .int .i64 ((rd_T27 l1 x7_1).f1.f2), .int .i64 ((rd_T27 l1 x7_1).f2.f0), .int .i64 ((rd_T27 l1 x7_1).f2.f1), .int .i64 ((rd_T27 l1 x7_1).f3)]] rfl (by (try simp only [List.map_toArray, List.map_cons, List.map_nil]); first | done | rfl | (simp only [List.length_drop, List.length_take]; rfl)) ?_; (with_reducible refine (swarfref33_arc.calls ((rd_T27 l1 x7_1).f0) ((rd_T27 l1 x7_1).f1.f0) ((rd_T27 l1 x7_1).f1.f1) ((rd_T27 l1 x7_1).f1.f2) ((rd_T27 l1 x7_1).f2.f0) ((rd_T27 l1 x7_1).f2.f1) ((rd_T27 l1 x7_1).f3) true _ A8.out).mono ?_); rintro e w14 ⟨rfl, hb⟩; refine ⟨_, rfl, ?_⟩; have n0_ := Aside0.mk (Kd.R_below (by first | exact HO_6.out | exact Kd.R_drewN HO_6.out _) hb); have n1_ := Aside0.mk (blk_below (by exact BK246.out) hb); have n2_ := Aside0.mk (below_step (by first | exact HB.out | exact pw_below_drewN HB.out _) hb); clear HO_6; clear BK246; clear HB; have HO_6 := n0_; have BK246 := n1_; have HB := n2_; clear n0_ n1_ n2_; (try clear hb); (try clear hb2); (try clear hk); (try clear hi)))
        have n0_ := Aside0.mk (Kd.R_drew HO_6.out)
        have n1_ := Aside0.mk (blk_drew BK246.out)
        have n2_ := Aside0.mk (below_drew1 HB.out)
        clear HO_6
        clear BK246
        clear HB
        have HO_6 := n0_
        have BK246 := n1_
        have HB := n2_
        clear n0_ n1_ n2_
        have p251 : 0 ≤ (x7_1 : Int) := of_decide_eq_true (by first | (with_reducible assumption) | assumption)
        have q251 : x7_1 < (l1.length : Int) := of_decide_eq_true (by first | (with_reducible assumption) | assumption)
        obtain ⟨ad251, e251, hx251_0, hx251_1, hx251_2, hx251_3, hx251_4, hx251_5, hx251_6⟩ := at_T27 HR1.out x7_1 p251 q251
        have hw251_6 := hx251_6
        have hw251_5 := hx251_5
        have hw251_4 := hx251_4
        have hw251_3 := hx251_3
        have hw251_2 := hx251_2
        have hw251_1 := hx251_1
        have hw251_0 := hx251_0
        obtain rfl : ad247 = ad251 := (by injection e251)
        replace hx251_0 := (HB.out.cell (World.block_lt_of_cell? w _ hx251_0)).trans hx251_0
        replace hx251_1 := (HB.out.cell (World.block_lt_of_cell? w _ hx251_1)).trans hx251_1
        replace hx251_2 := (HB.out.cell (World.block_lt_of_cell? w _ hx251_2)).trans hx251_2
        replace hx251_3 := (HB.out.cell (World.block_lt_of_cell? w _ hx251_3)).trans hx251_3
        replace hx251_4 := (HB.out.cell (World.block_lt_of_cell? w _ hx251_4)).trans hx251_4
        replace hx251_5 := (HB.out.cell (World.block_lt_of_cell? w _ hx251_5)).trans hx251_5
        replace hx251_6 := (HB.out.cell (World.block_lt_of_cell? w _ hx251_6)).trans hx251_6
        replace p251 := eq_true p251
        replace q251 := eq_true q251
        refine start_ (n := 11) (S := fun w' => w'.cell? ⟨gb246, 0, none⟩ = some (.int .i64 x247000_1) ∧ w'.cell? ⟨gb246, 1, none⟩ = some (.int .i64 x247001_1) ∧ w'.cell? ⟨gb246, 2, none⟩ = some (.int .i64 x247002_1) ∧ w'.cell? (ad247.add ((x7_1).toNat * 7)) = some (.int .i64 ((rd_T27 l1 x7_1).f0)) ∧ w'.cell? ⟨(ad247.add ((x7_1).toNat * 7)).block, (ad247.add ((x7_1).toNat * 7)).off + 1, none⟩ = some (.int .i64 ((rd_T27 l1 x7_1).f1.f0)) ∧ w'.cell? ⟨(ad247.add ((x7_1).toNat * 7)).block, (ad247.add ((x7_1).toNat * 7)).off + 2, none⟩ = some (.int .i64 ((rd_T27 l1 x7_1).f1.f1)) ∧ w'.cell? ⟨(ad247.add ((x7_1).toNat * 7)).block, (ad247.add ((x7_1).toNat * 7)).off + 3, none⟩ = some (.int .i64 ((rd_T27 l1 x7_1).f1.f2)) ∧ w'.cell? ⟨(ad247.add ((x7_1).toNat * 7)).block, (ad247.add ((x7_1).toNat * 7)).off + 4, none⟩ = some (.int .i64 ((rd_T27 l1 x7_1).f2.f0)) ∧ w'.cell? ⟨(ad247.add ((x7_1).toNat * 7)).block, (ad247.add ((x7_1).toNat * 7)).off + 5, none⟩ = some (.int .i64 ((rd_T27 l1 x7_1).f2.f1)) ∧ w'.cell? ⟨(ad247.add ((x7_1).toNat * 7)).block, (ad247.add ((x7_1).toNat * 7)).off + 6, none⟩ = some (.int .i64 ((rd_T27 l1 x7_1).f3))) (ds := []) #[false, false, false, false, false, false, false, false, false, false, false] (by kernel_rfl) rfl rfl ⟨(blk_cell BK246.out 0).trans rfl, (blk_cell BK246.out 1).trans rfl, (blk_cell BK246.out 2).trans rfl, ((HB.out.cell (World.block_lt_of_cell? w _ hw251_0)).trans hw251_0), ((HB.out.cell (World.block_lt_of_cell? w _ hw251_1)).trans hw251_1), ((HB.out.cell (World.block_lt_of_cell? w _ hw251_2)).trans hw251_2), ((HB.out.cell (World.block_lt_of_cell? w _ hw251_3)).trans hw251_3), ((HB.out.cell (World.block_lt_of_cell? w _ hw251_4)).trans hw251_4), ((HB.out.cell (World.block_lt_of_cell? w _ hw251_5)).trans hw251_5), ((HB.out.cell (World.block_lt_of_cell? w _ hw251_6)).trans hw251_6)⟩ (fun hHeld => ?_); refine with_tabW swarfref33_Positions.tab9 swarfref33_Positions.bits9 (fun HT_ HW_ => ?_)
        generalize w14.drew = w15 at HO_6 BK246 HB hx251_0 hx251_1 hx251_2 hx251_3 hx251_4 hx251_5 hx251_6 hHeld ⊢
        refine pu 1 33 (bzz 11 2) (any_of HT_.out (by kernel_rfl)) ?_
        refine pu 2 34 (bzz 11 6) (any_of HT_.out (by kernel_rfl)) ?_
        refine pu 3 35 (bzz 11 14) (any_of HT_.out (by kernel_rfl)) ?_
        refine ta 0 32 (bzz 11 15) (take_ofW HT_.out HW_.out (by kernel_rfl)) hHeld ?_
        refine ta 4 36 (bzz 11 31) (take_ofW HT_.out HW_.out (by kernel_rfl)) hHeld ?_
        refine one_ (i := 5) (N := some 37) (bzz 11 63) rfl rfl (one_of HT_.out (by kernel_rfl)) (by decide) (fun K hK => ?_)
        refine goes_ Try.func19 (by kernel_rfl) rfl #[.agg #[.int .i64 x247000_1, .int .i64 x247001_1, .int .i64 x247002_1], .agg #[.int .i64 ((rd_T27 l1 x7_1).f0), .int .i64 ((rd_T27 l1 x7_1).f1.f0), .int .i64 ((rd_T27 l1 x7_1).f1.f1), .int .i64 ((rd_T27 l1 x7_1).f1.f2), .int .i64 ((rd_T27 l1 x7_1).f2.f0), .int .i64 ((rd_T27 l1 x7_1).f2.f1), .int .i64 ((rd_T27 l1 x7_1).f3)]] (by rfl) rfl rfl (by (try simp only [List.map_toArray, List.map_cons, List.map_nil]); first | done | rfl | (simp only [List.length_drop, List.length_take]; rfl)) ?_
        with_reducible refine (swarfref33_Arc.calls k1 x247000_1 x247001_1 x247002_1 ((rd_T27 l1 x7_1).f0) ((rd_T27 l1 x7_1).f1.f0) ((rd_T27 l1 x7_1).f1.f1) ((rd_T27 l1 x7_1).f1.f2) ((rd_T27 l1 x7_1).f2.f0) ((rd_T27 l1 x7_1).f2.f1) ((rd_T27 l1 x7_1).f3) t252 t255 _ A10.out).mono ?_
        rintro e w16 ⟨v253, rfl, ho0, hb⟩
        refine ⟨_, rfl, ?_⟩
        have n0_ := Aside0.mk (Kd.R_elder' (by (with_reducible repeat (first | apply Kd.R_alloc | apply Kd.R_drewN | apply Kd.R_drew)); exact HO_6.out) (Kd.R_base ho0) hb)
        have n1_ := Aside0.mk (Kd.R_lower (Kd.R_newB (Kd.R_new' ho0 (Kd.R_lt (by (with_reducible repeat (first | apply Kd.R_alloc | apply Kd.R_drewN | apply Kd.R_drew)); exact HO_6.out))) (g := gb246) (o := .cells #[.int .i64 x247000_1, .int .i64 x247001_1, .int .i64 x247002_1] 23 (0, 0)) (by (with_reducible repeat (first | refine blk_drewN ?_ _ | refine blk_drew ?_ | refine blk_alloc ?_ _)); exact BK246.out)) (below_size (by first | exact HB.out | exact pw_below_drewN HB.out _)))
        have n2_ := Aside0.mk (blk_below (by exact BK246.out) hb)
        have n3_ := Aside0.mk (below_step (by first | exact HB.out | exact pw_below_drewN HB.out _) hb)
        clear HO_6
        clear BK246
        clear HB
        have HO_6 := n0_
        have HO254 := n1_
        have BK246 := n2_
        have HB := n3_
        clear n0_ n1_ n2_ n3_
        (try clear hb)
        (try clear hb2)
        (try clear hk)
        (try clear hi)
        (try clear ho0)
        refine hK.out _ _ ⟨(blk_cell BK246.out 0).trans rfl, (blk_cell BK246.out 1).trans rfl, (blk_cell BK246.out 2).trans rfl, ((HB.out.cell (World.block_lt_of_cell? w _ hw251_0)).trans hw251_0), ((HB.out.cell (World.block_lt_of_cell? w _ hw251_1)).trans hw251_1), ((HB.out.cell (World.block_lt_of_cell? w _ hw251_2)).trans hw251_2), ((HB.out.cell (World.block_lt_of_cell? w _ hw251_3)).trans hw251_3), ((HB.out.cell (World.block_lt_of_cell? w _ hw251_4)).trans hw251_4), ((HB.out.cell (World.block_lt_of_cell? w _ hw251_5)).trans hw251_5), ((HB.out.cell (World.block_lt_of_cell? w _ hw251_6)).trans hw251_6)⟩ (fun hHeld => ?_)
        clear hK K
        refine norm_ (a' := ?_) ?_ ?_
        rotate_left
        ·show Act.put _ (some 37) _ = _
         simp only [Act.put, List.setIfInBounds_toArray, List.set_cons_zero, List.set_cons_succ, i64_w, i32_w]
         rfl
        refine pu 6 31 (bzz 11 127) (any_of HT_.out (by kernel_rfl)) ?_
        refine pu 7 38 (bzz 11 255) (any_of HT_.out (by kernel_rfl)) ?_
        refine pu 8 39 (bzz 11 511) (any_of HT_.out (by kernel_rfl)) ?_
        refine pu 9 9 (bzz 11 1023) (any_of HT_.out (by kernel_rfl)) ?_
        refine pu 10 10 (bzz 11 2047) (any_of HT_.out (by kernel_rfl)) ?_
        refine done_ (done_of HT_.out (by kernel_rfl)) ?_
        obtain ⟨Ao18, co18, eo18⟩ := Kd.R_slice HO254.out
        subst eo18
        try go_wp2_with (first | ((with_reducible refine gate_builtin (b := .append) (xs := #[.tmp 40, .tmp 41]) rfl ?_); at_builtin; refine Kd.R_append_rows k23 (w0 := w) w.heap.size rfl (.tmp 40) (.tmp 41) 38 23 (.agg #[(.int .i64 0), (.int .i64 0), (.int .i64 0)]) 24 rfl Try.underlying38 info23 rfl (by decide) (by omega) u6 x6_1 t252 _ _ _ (fun k_ => some k_ ≠ (.slice Ao18 t252.length co18 : Value).ownBlock ∧ k_ ≠ gb246) (fun _ => False) rfl rfl ?aO ?aR (fun _ _ h => h) (fun _ h => h.elim) ?aF ?aB ?aS ?aL ?_; (case aR => repeat (first | exact (Kd.R_reads' HO254.out).2.2 | (with_reducible refine Kd.C_alloc ?_ _) | (with_reducible refine Kd.C_drewN ?_ _) | (with_reducible refine Kd.C_drew ?_))); (case aB => exact (by repeat (first | (with_reducible first | exact HB.out | apply below_alloc | apply pw_below_drewN | apply below_drew1 | refine below_set ?_ GE246.out) | exact HB.out))); (case aF => exact (fun k_ hk => ⟨Kd.fresh' (Kd.R_lt (by (with_reducible repeat (first | apply Kd.R_alloc | apply Kd.R_drewN | apply Kd.R_drew)); exact HO254.out)) k_ hk, Kd.freshB (g := gb246) (o := .cells #[.int .i64 x247000_1, .int .i64 x247001_1, .int .i64 x247002_1] 23 (0, 0)) (by (with_reducible repeat (first | refine blk_drewN ?_ _ | refine blk_drew ?_ | refine blk_alloc ?_ _)); exact BK246.out) k_ hk⟩)); (case aO => exact (by (with_reducible repeat (first | apply Kd.R_alloc | apply Kd.R_drewN | apply Kd.R_drew)); exact Kd.R_mono HO_6.out (fun _ hk => ⟨hk.2, hk.1⟩))); (case aS => exact (below_size (by first | exact HB.out | exact pw_below_drewN HB.out _))); (case aL => have := LMc11.out; omega); intro v257 w17 ho hb hg hat; rw [← Ny256.out] at ho; have n0_ := Aside0.mk (blk_grown (g := gb246) (o := .cells #[.int .i64 x247000_1, .int .i64 x247001_1, .int .i64 x247002_1] 23 (0, 0)) (by (with_reducible repeat (first | refine blk_drewN ?_ _ | refine blk_drew ?_ | refine blk_alloc ?_ _)); exact BK246.out) hg (Kd.R_away HO_6.out (fun _ hk => hk.1))); have n1_ := Aside0.mk (Kd.R_after (ok := (fun k_ => k_ ≠ gb246)) (by (with_reducible repeat (first | apply Kd.R_alloc | apply Kd.R_drewN | apply Kd.R_drew)); exact Kd.R_mono HO254.out (fun _ hk => ⟨hk.2, hk.1.2⟩)) hg hat); have n2_ := Aside0.mk (hb); have n3_ := Aside0.mk (ho); clear BK246; clear HO254; clear HB; clear HO_6; have BK246 := n0_; have HO254 := n1_; have HB := n2_; have HO258 := n3_; clear n0_ n1_ n2_ n3_; clear ho hb hg hat; have p259 : 0 ≤ (x7_1 : Int) := of_decide_eq_true (by first | (with_reducible assumption) | assumption); have q259 : x7_1 < (l1.length : Int) := of_decide_eq_true (by first | (with_reducible assumption) | assumption); obtain ⟨ad259, e259, hx259_0, hx259_1, hx259_2, hx259_3, hx259_4, hx259_5, hx259_6⟩ := at_T27 HR1.out x7_1 p259 q259; obtain rfl : ad247 = ad259 := (by injection e259); replace hx259_0 := (HB.out.cell (World.block_lt_of_cell? w _ hx259_0)).trans hx259_0; replace hx259_1 := (HB.out.cell (World.block_lt_of_cell? w _ hx259_1)).trans hx259_1; replace hx259_2 := (HB.out.cell (World.block_lt_of_cell? w _ hx259_2)).trans hx259_2; replace hx259_3 := (HB.out.cell (World.block_lt_of_cell? w _ hx259_3)).trans hx259_3; replace hx259_4 := (HB.out.cell (World.block_lt_of_cell? w _ hx259_4)).trans hx259_4; replace hx259_5 := (HB.out.cell (World.block_lt_of_cell? w _ hx259_5)).trans hx259_5; replace hx259_6 := (HB.out.cell (World.block_lt_of_cell? w _ hx259_6)).trans hx259_6; replace p259 := eq_true p259; replace q259 := eq_true q259; obtain ⟨hcz19_0, hcz19_1, hcz19_2⟩ := cells3 BK246.out; have hfz19_0 := blk_frozen BK246.out 0; have hfz19_1 := blk_frozen BK246.out 1; have hfz19_2 := blk_frozen BK246.out 2))
        go_roundg k1
        case measure => have := HK1.out; omega
        case rel => exact ⟨(y256), (wrap64 (x7_1 + 1)), ((rd_T27 l1 x7_1).f1.f0), ((rd_T27 l1 x7_1).f1.f1), ((rd_T27 l1 x7_1).f1.f2), (by first | rfl | (simp; done) | (simp [*]; done)), H', ⟨by have := HK1.out; omega⟩, ⟨by (with_reducible repeat (first | apply Kd.R_alloc | apply Kd.R_drewN | apply Kd.R_drew)); exact Kd.R_mono (Kd.R_far (p := ⟨gb246, 2, none⟩) (Kd.R_far (p := ⟨gb246, 1, none⟩) (Kd.R_far (p := ⟨gb246, 0, none⟩) (Kd.R_mono HO258.out (fun k_ hk => (⟨hk, hk.2⟩ : _ ∧ k_ ≠ gb246))) (fun _ hk => hk.2) (.int .i64 ((rd_T27 l1 x7_1).f1.f0))) (fun _ hk => hk.2) (.int .i64 ((rd_T27 l1 x7_1).f1.f1))) (fun _ hk => hk.2) (.int .i64 ((rd_T27 l1 x7_1).f1.f2))) (fun _ hk => hk.1.2)⟩, ⟨by (with_reducible repeat (first | refine blk_drewN ?_ _ | refine blk_drew ?_ | refine blk_alloc ?_ _)); refine blk_put (cs := #[.int .i64 ((rd_T27 l1 x7_1).f1.f0), .int .i64 ((rd_T27 l1 x7_1).f1.f1), .int .i64 x247002_1]) ?_ 2 _ rfl; (with_reducible repeat (first | refine blk_drewN ?_ _ | refine blk_drew ?_ | refine blk_alloc ?_ _)); refine blk_put (cs := #[.int .i64 ((rd_T27 l1 x7_1).f1.f0), .int .i64 x247001_1, .int .i64 x247002_1]) ?_ 1 _ rfl; (with_reducible repeat (first | refine blk_drewN ?_ _ | refine blk_drew ?_ | refine blk_alloc ?_ _)); refine blk_put (cs := #[.int .i64 x247000_1, .int .i64 x247001_1, .int .i64 x247002_1]) ?_ 0 _ rfl; (with_reducible repeat (first | refine blk_drewN ?_ _ | refine blk_drew ?_ | refine blk_alloc ?_ _)); exact BK246.out⟩, ⟨by repeat (first | (with_reducible first | exact HB.out | apply below_alloc | apply pw_below_drewN | apply below_drew1 | refine below_set ?_ GE246.out) | exact HB.out)⟩⟩
       ·rw [if_neg c11] at H
        exact absurd H (by simp)
      ·replace c9 := Bool.eq_false_iff.mpr c9
       subst c9
       have H1 : (if x6_1.length < 5864062014805 then (swarfref33_Positions.l0 k1 l1 (x6_1 ++ [(⟨(rd_T27 l1 x7_1).f1.f0, (rd_T27 l1 x7_1).f1.f1, (rd_T27 l1 x7_1).f1.f2⟩ : S23)]) (wrap64 (x7_1 + 1)) ((rd_T27 l1 x7_1).f1.f0) ((rd_T27 l1 x7_1).f1.f1) ((rd_T27 l1 x7_1).f1.f2)) else (none)) = some (r1, r2) := by rw [if_neg (show ¬ (false = true) by decide)] at H; exact H
       clear H
       have H := H1
       clear H1
       by_cases c20 : x6_1.length < 5864062014805
       ·rw [if_pos c20] at H
        have LMc20 := Aside0.mk c20
        clear c20
        obtain ⟨y261, hy261⟩ : ∃ y_ : List (S23), y_ = (x6_1 ++ [(⟨(rd_T27 l1 x7_1).f1.f0, (rd_T27 l1 x7_1).f1.f1, (rd_T27 l1 x7_1).f1.f2⟩ : S23)]) := ⟨_, rfl⟩
        replace H : (swarfref33_Positions.l0 k1 l1 y261 (wrap64 (x7_1 + 1)) ((rd_T27 l1 x7_1).f1.f0) ((rd_T27 l1 x7_1).f1.f1) ((rd_T27 l1 x7_1).f1.f2)) = some (r1, r2) := by first | (rw [hy261]; with_reducible exact H) | (have H2_ := (Option.bind_some _ _).symm.trans H; rw [hy261]; with_reducible exact H2_) | (have H2_ := (Option.bind_some _ _).symm.trans H; with_reducible exact H2_) | with_reducible exact H | (rw [hy261]; exact H) | exact H
        have Ny261 := Aside0.mk hy261
        clear hy261
        have H' := Aside0.mk H
        clear H
        try go_wp2
        have n0_ := Aside0.mk (Kd.R_drew HO_6.out)
        have n1_ := Aside0.mk (blk_drew BK246.out)
        have n2_ := Aside0.mk (below_drew1 HB.out)
        clear HO_6
        clear BK246
        clear HB
        have HO_6 := n0_
        have BK246 := n1_
        have HB := n2_
        clear n0_ n1_ n2_
        have p247 : 0 ≤ (x7_1 : Int) := of_decide_eq_true (by first | (with_reducible assumption) | assumption)
        have q247 : x7_1 < (l1.length : Int) := of_decide_eq_true (by first | (with_reducible assumption) | assumption)
        obtain ⟨ad247, e247, hx247_0, hx247_1, hx247_2, hx247_3, hx247_4, hx247_5, hx247_6⟩ := at_T27 HR1.out x7_1 p247 q247
        have hw247_6 := hx247_6
        have hw247_5 := hx247_5
        have hw247_4 := hx247_4
        have hw247_3 := hx247_3
        have hw247_2 := hx247_2
        have hw247_1 := hx247_1
        have hw247_0 := hx247_0
        cases e247
        replace hx247_0 := (HB.out.cell (World.block_lt_of_cell? w _ hx247_0)).trans hx247_0
        replace hx247_1 := (HB.out.cell (World.block_lt_of_cell? w _ hx247_1)).trans hx247_1
        replace hx247_2 := (HB.out.cell (World.block_lt_of_cell? w _ hx247_2)).trans hx247_2
        replace hx247_3 := (HB.out.cell (World.block_lt_of_cell? w _ hx247_3)).trans hx247_3
        replace hx247_4 := (HB.out.cell (World.block_lt_of_cell? w _ hx247_4)).trans hx247_4
        replace hx247_5 := (HB.out.cell (World.block_lt_of_cell? w _ hx247_5)).trans hx247_5
        replace hx247_6 := (HB.out.cell (World.block_lt_of_cell? w _ hx247_6)).trans hx247_6
        replace p247 := eq_true p247
        replace q247 := eq_true q247
        refine start_ (n := 7) (S := fun w' => w'.cell? ⟨gb246, 0, none⟩ = some (.int .i64 x247000_1) ∧ w'.cell? ⟨gb246, 1, none⟩ = some (.int .i64 x247001_1) ∧ w'.cell? ⟨gb246, 2, none⟩ = some (.int .i64 x247002_1) ∧ w'.cell? (ad247.add ((x7_1).toNat * 7)) = some (.int .i64 ((rd_T27 l1 x7_1).f0)) ∧ w'.cell? ⟨(ad247.add ((x7_1).toNat * 7)).block, (ad247.add ((x7_1).toNat * 7)).off + 1, none⟩ = some (.int .i64 ((rd_T27 l1 x7_1).f1.f0)) ∧ w'.cell? ⟨(ad247.add ((x7_1).toNat * 7)).block, (ad247.add ((x7_1).toNat * 7)).off + 2, none⟩ = some (.int .i64 ((rd_T27 l1 x7_1).f1.f1)) ∧ w'.cell? ⟨(ad247.add ((x7_1).toNat * 7)).block, (ad247.add ((x7_1).toNat * 7)).off + 3, none⟩ = some (.int .i64 ((rd_T27 l1 x7_1).f1.f2)) ∧ w'.cell? ⟨(ad247.add ((x7_1).toNat * 7)).block, (ad247.add ((x7_1).toNat * 7)).off + 4, none⟩ = some (.int .i64 ((rd_T27 l1 x7_1).f2.f0)) ∧ w'.cell? ⟨(ad247.add ((x7_1).toNat * 7)).block, (ad247.add ((x7_1).toNat * 7)).off + 5, none⟩ = some (.int .i64 ((rd_T27 l1 x7_1).f2.f1)) ∧ w'.cell? ⟨(ad247.add ((x7_1).toNat * 7)).block, (ad247.add ((x7_1).toNat * 7)).off + 6, none⟩ = some (.int .i64 ((rd_T27 l1 x7_1).f3))) (ds := []) #[false, false, false, false, false, false, false] (by kernel_rfl) rfl rfl ⟨(blk_cell BK246.out 0).trans rfl, (blk_cell BK246.out 1).trans rfl, (blk_cell BK246.out 2).trans rfl, ((HB.out.cell (World.block_lt_of_cell? w _ hw247_0)).trans hw247_0), ((HB.out.cell (World.block_lt_of_cell? w _ hw247_1)).trans hw247_1), ((HB.out.cell (World.block_lt_of_cell? w _ hw247_2)).trans hw247_2), ((HB.out.cell (World.block_lt_of_cell? w _ hw247_3)).trans hw247_3), ((HB.out.cell (World.block_lt_of_cell? w _ hw247_4)).trans hw247_4), ((HB.out.cell (World.block_lt_of_cell? w _ hw247_5)).trans hw247_5), ((HB.out.cell (World.block_lt_of_cell? w _ hw247_6)).trans hw247_6)⟩ (fun hHeld => ?_)
        generalize wr.drew = w21 at HO_6 BK246 HB hx247_0 hx247_1 hx247_2 hx247_3 hx247_4 hx247_5 hx247_6 hHeld ⊢
        refine pu 1 18 (bzz 7 2) (by kernel_rfl) ?_
        refine pu 2 19 (bzz 7 6) (by kernel_rfl) ?_
        refine pu 3 20 (bzz 7 14) (by kernel_rfl) ?_
        refine ta 0 17 (bzz 7 15) (by kernel_rfl) hHeld ?_
        refine ta 4 21 (bzz 7 31) (by kernel_rfl) hHeld ?_
        refine one_ (i := 5) (N := some 22) (bzz 7 63) rfl rfl (by kernel_rfl) (by decide) (fun K hK => ?_)
        refine goes_ Try.func15 (by kernel_rfl) rfl #[.agg #[.int .i64 x247000_1, .int .i64 x247001_1, .int .i64 x247002_1], .agg #[.int .i64 ((rd_T27 l1 x7_1).f0), .int .i64 ((rd_T27 l1 x7_1).f1.f0), .int .i64 ((rd_T27 l1 x7_1).f1.f1), .int .i64 ((rd_T27 l1 x7_1).f1.f2), .int .i64 ((rd_T27 l1 x7_1).f2.f0), .int .i64 ((rd_T27 l1 x7_1).f2.f1), .int .i64 ((rd_T27 l1 x7_1).f3)]] (by rfl) rfl rfl (by (try simp only [List.map_toArray, List.map_cons, List.map_nil]); first | done | rfl | (simp only [List.length_drop, List.length_take]; rfl)) ?_
        with_reducible refine (swarfref33_Valid.calls k1 x247000_1 x247001_1 x247002_1 ((rd_T27 l1 x7_1).f0) ((rd_T27 l1 x7_1).f1.f0) ((rd_T27 l1 x7_1).f1.f1) ((rd_T27 l1 x7_1).f1.f2) ((rd_T27 l1 x7_1).f2.f0) ((rd_T27 l1 x7_1).f2.f1) ((rd_T27 l1 x7_1).f3) t248 _ A6.out).mono ?_
        rintro e w22 ⟨rfl, hb⟩
        refine ⟨_, rfl, ?_⟩
        have n0_ := Aside0.mk (Kd.R_below (by first | exact HO_6.out | exact Kd.R_drewN HO_6.out _) hb)
        have n1_ := Aside0.mk (blk_below (by exact BK246.out) hb)
        have n2_ := Aside0.mk (below_step (by first | exact HB.out | exact pw_below_drewN HB.out _) hb)
        clear HO_6
        clear BK246
        clear HB
        have HO_6 := n0_
        have BK246 := n1_
        have HB := n2_
        clear n0_ n1_ n2_
        (try clear hb)
        (try clear hb2)
        (try clear hk)
        (try clear hi)
        refine hK.out _ _ ⟨(blk_cell BK246.out 0).trans rfl, (blk_cell BK246.out 1).trans rfl, (blk_cell BK246.out 2).trans rfl, ((HB.out.cell (World.block_lt_of_cell? w _ hw247_0)).trans hw247_0), ((HB.out.cell (World.block_lt_of_cell? w _ hw247_1)).trans hw247_1), ((HB.out.cell (World.block_lt_of_cell? w _ hw247_2)).trans hw247_2), ((HB.out.cell (World.block_lt_of_cell? w _ hw247_3)).trans hw247_3), ((HB.out.cell (World.block_lt_of_cell? w _ hw247_4)).trans hw247_4), ((HB.out.cell (World.block_lt_of_cell? w _ hw247_5)).trans hw247_5), ((HB.out.cell (World.block_lt_of_cell? w _ hw247_6)).trans hw247_6)⟩ (fun hHeld => ?_)
        clear hK K
        refine norm_ (a' := ?_) ?_ ?_
        rotate_left
        ·show Act.put _ (some 22) _ = _
         simp only [Act.put, List.setIfInBounds_toArray, List.set_cons_zero, List.set_cons_succ, i64_w, i32_w]
         rfl
        refine pu 6 8 (bzz 7 127) (by kernel_rfl) ?_
        refine done_ (by kernel_rfl) ?_
        have p249 : 0 ≤ (x7_1 : Int) := of_decide_eq_true (by first | (with_reducible assumption) | assumption)
        have q249 : x7_1 < (l1.length : Int) := of_decide_eq_true (by first | (with_reducible assumption) | assumption)
        obtain ⟨ad249, e249, hx249_0, hx249_1, hx249_2, hx249_3, hx249_4, hx249_5, hx249_6⟩ := at_T27 HR1.out x7_1 p249 q249
        obtain rfl : ad247 = ad249 := (by injection e249)
        replace hx249_0 := (HB.out.cell (World.block_lt_of_cell? w _ hx249_0)).trans hx249_0
        replace hx249_1 := (HB.out.cell (World.block_lt_of_cell? w _ hx249_1)).trans hx249_1
        replace hx249_2 := (HB.out.cell (World.block_lt_of_cell? w _ hx249_2)).trans hx249_2
        replace hx249_3 := (HB.out.cell (World.block_lt_of_cell? w _ hx249_3)).trans hx249_3
        replace hx249_4 := (HB.out.cell (World.block_lt_of_cell? w _ hx249_4)).trans hx249_4
        replace hx249_5 := (HB.out.cell (World.block_lt_of_cell? w _ hx249_5)).trans hx249_5
        replace hx249_6 := (HB.out.cell (World.block_lt_of_cell? w _ hx249_6)).trans hx249_6
        replace p249 := eq_true p249
        replace q249 := eq_true q249
        try go_wp2_with (first | ((with_reducible refine gate_callee (f := 31) rfl ?_); refine goesL_ (some 30) rfl rfl Try.func31 (by kernel_rfl) rfl #[.agg #[.int .i64 ((rd_T27 l1 x7_1).f0), .int .i64 ((rd_T27 l1 x7_1).f1.f0), .int .i64 ((rd_T27 l1 x7_1).f1.f1), .int .i64 ((rd_T27 l1 x7_1).f1.f2), .int .i64 ((rd_T27 l1 x7_1).f2.f0), .int .i64 ((rd_T27 l1 x7_1).f2.f1), .int .i64 ((rd_T27 l1 x7_1).f3)]] rfl (by (try simp only [List.map_toArray, List.map_cons, List.map_nil]); first | done | rfl | (simp only [List.length_drop, List.length_take]; rfl)) ?_; (with_reducible refine (swarfref33_arc.calls ((rd_T27 l1 x7_1).f0) ((rd_T27 l1 x7_1).f1.f0) ((rd_T27 l1 x7_1).f1.f1) ((rd_T27 l1 x7_1).f1.f2) ((rd_T27 l1 x7_1).f2.f0) ((rd_T27 l1 x7_1).f2.f1) ((rd_T27 l1 x7_1).f3) false _ A8.out).mono ?_); rintro e w23 ⟨rfl, hb⟩; refine ⟨_, rfl, ?_⟩; have n0_ := Aside0.mk (Kd.R_below (by first | exact HO_6.out | exact Kd.R_drewN HO_6.out _) hb); have n1_ := Aside0.mk (blk_below (by exact BK246.out) hb); have n2_ := Aside0.mk (below_step (by first | exact HB.out | exact pw_below_drewN HB.out _) hb); clear HO_6; clear BK246; clear HB; have HO_6 := n0_; have BK246 := n1_; have HB := n2_; clear n0_ n1_ n2_; (try clear hb); (try clear hb2); (try clear hk); (try clear hi); have p260 : 0 ≤ (x7_1 : Int) := of_decide_eq_true (by first | (with_reducible assumption) | assumption); have q260 : x7_1 < (l1.length : Int) := of_decide_eq_true (by first | (with_reducible assumption) | assumption); obtain ⟨ad260, e260, hx260_0, hx260_1, hx260_2, hx260_3, hx260_4, hx260_5, hx260_6⟩ := at_T27 HR1.out x7_1 p260 q260; obtain rfl : ad247 = ad260 := (by injection e260); replace hx260_0 := (HB.out.cell (World.block_lt_of_cell? w _ hx260_0)).trans hx260_0; replace hx260_1 := (HB.out.cell (World.block_lt_of_cell? w _ hx260_1)).trans hx260_1; replace hx260_2 := (HB.out.cell (World.block_lt_of_cell? w _ hx260_2)).trans hx260_2; replace hx260_3 := (HB.out.cell (World.block_lt_of_cell? w _ hx260_3)).trans hx260_3; replace hx260_4 := (HB.out.cell (World.block_lt_of_cell? w _ hx260_4)).trans hx260_4; replace hx260_5 := (HB.out.cell (World.block_lt_of_cell? w _ hx260_5)).trans hx260_5; replace hx260_6 := (HB.out.cell (World.block_lt_of_cell? w _ hx260_6)).trans hx260_6; replace p260 := eq_true p260; replace q260 := eq_true q260) | ((with_reducible refine gate_builtin (b := .append) (xs := #[.tmp 43, .tmp 49]) rfl ?_); at_builtin; refine Kd.R_append k23 (w0 := w) w.heap.size rfl (.tmp 43) (.tmp 49) 38 23 (.agg #[(.int .i64 0), (.int .i64 0), (.int .i64 0)]) 24 rfl Try.underlying38 info23 rfl (by decide) (by omega) u6 x6_1 (⟨(rd_T27 l1 x7_1).f1.f0, (rd_T27 l1 x7_1).f1.f1, (rd_T27 l1 x7_1).f1.f2⟩ : S23) [.int .i64 ((rd_T27 l1 x7_1).f1.f0), .int .i64 ((rd_T27 l1 x7_1).f1.f1), .int .i64 ((rd_T27 l1 x7_1).f1.f2)] (fun k_ => k_ ≠ gb246) (fun _ => False) rfl rfl ?aP (fun _ hk => hk.elim) ?aF ?aO ?aB ?aS ?aL ?_; (case aP => exact k23_mkM _ _ _ (⟨(rd_T27 l1 x7_1).f1.f0, (rd_T27 l1 x7_1).f1.f1, (rd_T27 l1 x7_1).f1.f2⟩ : S23)); (case aB => exact (by repeat (first | (with_reducible first | exact HB.out | apply below_alloc | apply pw_below_drewN | apply below_drew1 | refine below_set ?_ GE246.out) | exact HB.out))); (case aF => exact (fun k_ hk => Kd.freshB (g := gb246) (o := .cells #[.int .i64 x247000_1, .int .i64 x247001_1, .int .i64 x247002_1] 23 (0, 0)) (by (with_reducible repeat (first | refine blk_drewN ?_ _ | refine blk_drew ?_ | refine blk_alloc ?_ _)); exact BK246.out) k_ hk)); (case aO => exact (by (with_reducible repeat (first | apply Kd.R_alloc | apply Kd.R_drewN | apply Kd.R_drew)); exact HO_6.out)); (case aS => exact (below_size (by first | exact HB.out | exact pw_below_drewN HB.out _))); (case aL => have := LMc20.out; omega); intro v262 w24 ho hb hg hat; rw [← Ny261.out] at ho; have n0_ := Aside0.mk (blk_grown (g := gb246) (o := .cells #[.int .i64 x247000_1, .int .i64 x247001_1, .int .i64 x247002_1] 23 (0, 0)) (by (with_reducible repeat (first | refine blk_drewN ?_ _ | refine blk_drew ?_ | refine blk_alloc ?_ _)); exact BK246.out) hg (Kd.R_away HO_6.out (fun _ hk => hk))); have n1_ := Aside0.mk (hb); have n2_ := Aside0.mk (ho); clear BK246; clear HB; clear HO_6; have BK246 := n0_; have HB := n1_; have HO263 := n2_; clear n0_ n1_ n2_; clear ho hb hg hat; have p264 : 0 ≤ (x7_1 : Int) := of_decide_eq_true (by first | (with_reducible assumption) | assumption); have q264 : x7_1 < (l1.length : Int) := of_decide_eq_true (by first | (with_reducible assumption) | assumption); obtain ⟨ad264, e264, hx264_0, hx264_1, hx264_2, hx264_3, hx264_4, hx264_5, hx264_6⟩ := at_T27 HR1.out x7_1 p264 q264; obtain rfl : ad247 = ad264 := (by injection e264); replace hx264_0 := (HB.out.cell (World.block_lt_of_cell? w _ hx264_0)).trans hx264_0; replace hx264_1 := (HB.out.cell (World.block_lt_of_cell? w _ hx264_1)).trans hx264_1; replace hx264_2 := (HB.out.cell (World.block_lt_of_cell? w _ hx264_2)).trans hx264_2; replace hx264_3 := (HB.out.cell (World.block_lt_of_cell? w _ hx264_3)).trans hx264_3; replace hx264_4 := (HB.out.cell (World.block_lt_of_cell? w _ hx264_4)).trans hx264_4; replace hx264_5 := (HB.out.cell (World.block_lt_of_cell? w _ hx264_5)).trans hx264_5; replace hx264_6 := (HB.out.cell (World.block_lt_of_cell? w _ hx264_6)).trans hx264_6; replace p264 := eq_true p264; replace q264 := eq_true q264; obtain ⟨hcz25_0, hcz25_1, hcz25_2⟩ := cells3 BK246.out; have hfz25_0 := blk_frozen BK246.out 0; have hfz25_1 := blk_frozen BK246.out 1; have hfz25_2 := blk_frozen BK246.out 2))
        go_roundg k1
        case measure => have := HK1.out; omega
        case rel => exact ⟨(y261), (wrap64 (x7_1 + 1)), ((rd_T27 l1 x7_1).f1.f0), ((rd_T27 l1 x7_1).f1.f1), ((rd_T27 l1 x7_1).f1.f2), (by first | rfl | (simp; done) | (simp [*]; done)), H', ⟨by have := HK1.out; omega⟩, ⟨by (with_reducible repeat (first | apply Kd.R_alloc | apply Kd.R_drewN | apply Kd.R_drew)); exact Kd.R_mono (Kd.R_far (p := ⟨gb246, 2, none⟩) (Kd.R_far (p := ⟨gb246, 1, none⟩) (Kd.R_far (p := ⟨gb246, 0, none⟩) (Kd.R_mono HO263.out (fun k_ hk => (⟨hk, hk⟩ : _ ∧ k_ ≠ gb246))) (fun _ hk => hk.2) (.int .i64 ((rd_T27 l1 x7_1).f1.f0))) (fun _ hk => hk.2) (.int .i64 ((rd_T27 l1 x7_1).f1.f1))) (fun _ hk => hk.2) (.int .i64 ((rd_T27 l1 x7_1).f1.f2))) (fun _ hk => hk.1)⟩, ⟨by (with_reducible repeat (first | refine blk_drewN ?_ _ | refine blk_drew ?_ | refine blk_alloc ?_ _)); refine blk_put (cs := #[.int .i64 ((rd_T27 l1 x7_1).f1.f0), .int .i64 ((rd_T27 l1 x7_1).f1.f1), .int .i64 x247002_1]) ?_ 2 _ rfl; (with_reducible repeat (first | refine blk_drewN ?_ _ | refine blk_drew ?_ | refine blk_alloc ?_ _)); refine blk_put (cs := #[.int .i64 ((rd_T27 l1 x7_1).f1.f0), .int .i64 x247001_1, .int .i64 x247002_1]) ?_ 1 _ rfl; (with_reducible repeat (first | refine blk_drewN ?_ _ | refine blk_drew ?_ | refine blk_alloc ?_ _)); refine blk_put (cs := #[.int .i64 x247000_1, .int .i64 x247001_1, .int .i64 x247002_1]) ?_ 0 _ rfl; (with_reducible repeat (first | refine blk_drewN ?_ _ | refine blk_drew ?_ | refine blk_alloc ?_ _)); exact BK246.out⟩, ⟨by repeat (first | (with_reducible first | exact HB.out | apply below_alloc | apply pw_below_drewN | apply below_drew1 | refine below_set ?_ GE246.out) | exact HB.out)⟩⟩
       ·rw [if_neg c20] at H
        exact absurd H (by simp)
     ·rw [if_neg c7] at H
      have c7b0 : (t248 == 0) = false := beq_eq_false_iff_ne.mpr c7
      have c7b1 : (t248 != 0) = true := bne_iff_ne.mpr c7
      simp only [Option.some.injEq, Prod.mk.injEq] at H
      obtain ⟨rfl, rfl⟩ := H
      try go_wp2
      have n0_ := Aside0.mk (Kd.R_drew HO_6.out)
      have n1_ := Aside0.mk (blk_drew BK246.out)
      have n2_ := Aside0.mk (below_drew1 HB.out)
      clear HO_6
      clear BK246
      clear HB
      have HO_6 := n0_
      have BK246 := n1_
      have HB := n2_
      clear n0_ n1_ n2_
      have p247 : 0 ≤ (x7_1 : Int) := of_decide_eq_true (by first | (with_reducible assumption) | assumption)
      have q247 : x7_1 < (l1.length : Int) := of_decide_eq_true (by first | (with_reducible assumption) | assumption)
      obtain ⟨ad247, e247, hx247_0, hx247_1, hx247_2, hx247_3, hx247_4, hx247_5, hx247_6⟩ := at_T27 HR1.out x7_1 p247 q247
      have hw247_6 := hx247_6
      have hw247_5 := hx247_5
      have hw247_4 := hx247_4
      have hw247_3 := hx247_3
      have hw247_2 := hx247_2
      have hw247_1 := hx247_1
      have hw247_0 := hx247_0
      cases e247
      replace hx247_0 := (HB.out.cell (World.block_lt_of_cell? w _ hx247_0)).trans hx247_0
      replace hx247_1 := (HB.out.cell (World.block_lt_of_cell? w _ hx247_1)).trans hx247_1
      replace hx247_2 := (HB.out.cell (World.block_lt_of_cell? w _ hx247_2)).trans hx247_2
      replace hx247_3 := (HB.out.cell (World.block_lt_of_cell? w _ hx247_3)).trans hx247_3
      replace hx247_4 := (HB.out.cell (World.block_lt_of_cell? w _ hx247_4)).trans hx247_4
      replace hx247_5 := (HB.out.cell (World.block_lt_of_cell? w _ hx247_5)).trans hx247_5
      replace hx247_6 := (HB.out.cell (World.block_lt_of_cell? w _ hx247_6)).trans hx247_6
      replace p247 := eq_true p247
      replace q247 := eq_true q247
      refine start_ (n := 7) (S := fun w' => w'.cell? ⟨gb246, 0, none⟩ = some (.int .i64 x247000_1) ∧ w'.cell? ⟨gb246, 1, none⟩ = some (.int .i64 x247001_1) ∧ w'.cell? ⟨gb246, 2, none⟩ = some (.int .i64 x247002_1) ∧ w'.cell? (ad247.add ((x7_1).toNat * 7)) = some (.int .i64 ((rd_T27 l1 x7_1).f0)) ∧ w'.cell? ⟨(ad247.add ((x7_1).toNat * 7)).block, (ad247.add ((x7_1).toNat * 7)).off + 1, none⟩ = some (.int .i64 ((rd_T27 l1 x7_1).f1.f0)) ∧ w'.cell? ⟨(ad247.add ((x7_1).toNat * 7)).block, (ad247.add ((x7_1).toNat * 7)).off + 2, none⟩ = some (.int .i64 ((rd_T27 l1 x7_1).f1.f1)) ∧ w'.cell? ⟨(ad247.add ((x7_1).toNat * 7)).block, (ad247.add ((x7_1).toNat * 7)).off + 3, none⟩ = some (.int .i64 ((rd_T27 l1 x7_1).f1.f2)) ∧ w'.cell? ⟨(ad247.add ((x7_1).toNat * 7)).block, (ad247.add ((x7_1).toNat * 7)).off + 4, none⟩ = some (.int .i64 ((rd_T27 l1 x7_1).f2.f0)) ∧ w'.cell? ⟨(ad247.add ((x7_1).toNat * 7)).block, (ad247.add ((x7_1).toNat * 7)).off + 5, none⟩ = some (.int .i64 ((rd_T27 l1 x7_1).f2.f1)) ∧ w'.cell? ⟨(ad247.add ((x7_1).toNat * 7)).block, (ad247.add ((x7_1).toNat * 7)).off + 6, none⟩ = some (.int .i64 ((rd_T27 l1 x7_1).f3))) (ds := []) #[false, false, false, false, false, false, false] (by kernel_rfl) rfl rfl ⟨(blk_cell BK246.out 0).trans rfl, (blk_cell BK246.out 1).trans rfl, (blk_cell BK246.out 2).trans rfl, ((HB.out.cell (World.block_lt_of_cell? w _ hw247_0)).trans hw247_0), ((HB.out.cell (World.block_lt_of_cell? w _ hw247_1)).trans hw247_1), ((HB.out.cell (World.block_lt_of_cell? w _ hw247_2)).trans hw247_2), ((HB.out.cell (World.block_lt_of_cell? w _ hw247_3)).trans hw247_3), ((HB.out.cell (World.block_lt_of_cell? w _ hw247_4)).trans hw247_4), ((HB.out.cell (World.block_lt_of_cell? w _ hw247_5)).trans hw247_5), ((HB.out.cell (World.block_lt_of_cell? w _ hw247_6)).trans hw247_6)⟩ (fun hHeld => ?_)
      generalize wr.drew = w26 at HO_6 BK246 HB hx247_0 hx247_1 hx247_2 hx247_3 hx247_4 hx247_5 hx247_6 hHeld ⊢
      refine pu 1 18 (bzz 7 2) (by kernel_rfl) ?_
      refine pu 2 19 (bzz 7 6) (by kernel_rfl) ?_
      refine pu 3 20 (bzz 7 14) (by kernel_rfl) ?_
      refine ta 0 17 (bzz 7 15) (by kernel_rfl) hHeld ?_
      refine ta 4 21 (bzz 7 31) (by kernel_rfl) hHeld ?_
      refine one_ (i := 5) (N := some 22) (bzz 7 63) rfl rfl (by kernel_rfl) (by decide) (fun K hK => ?_)
      refine goes_ Try.func15 (by kernel_rfl) rfl #[.agg #[.int .i64 x247000_1, .int .i64 x247001_1, .int .i64 x247002_1], .agg #[.int .i64 ((rd_T27 l1 x7_1).f0), .int .i64 ((rd_T27 l1 x7_1).f1.f0), .int .i64 ((rd_T27 l1 x7_1).f1.f1), .int .i64 ((rd_T27 l1 x7_1).f1.f2), .int .i64 ((rd_T27 l1 x7_1).f2.f0), .int .i64 ((rd_T27 l1 x7_1).f2.f1), .int .i64 ((rd_T27 l1 x7_1).f3)]] (by rfl) rfl rfl (by (try simp only [List.map_toArray, List.map_cons, List.map_nil]); first | done | rfl | (simp only [List.length_drop, List.length_take]; rfl)) ?_
      with_reducible refine (swarfref33_Valid.calls k1 x247000_1 x247001_1 x247002_1 ((rd_T27 l1 x7_1).f0) ((rd_T27 l1 x7_1).f1.f0) ((rd_T27 l1 x7_1).f1.f1) ((rd_T27 l1 x7_1).f1.f2) ((rd_T27 l1 x7_1).f2.f0) ((rd_T27 l1 x7_1).f2.f1) ((rd_T27 l1 x7_1).f3) t248 _ A6.out).mono ?_
      rintro e w27 ⟨rfl, hb⟩
      refine ⟨_, rfl, ?_⟩
      have n0_ := Aside0.mk (Kd.R_below (by first | exact HO_6.out | exact Kd.R_drewN HO_6.out _) hb)
      have n1_ := Aside0.mk (blk_below (by exact BK246.out) hb)
      have n2_ := Aside0.mk (below_step (by first | exact HB.out | exact pw_below_drewN HB.out _) hb)
      clear HO_6
      clear BK246
      clear HB
      have HO_6 := n0_
      have BK246 := n1_
      have HB := n2_
      clear n0_ n1_ n2_
      (try clear hb)
      (try clear hb2)
      (try clear hk)
      (try clear hi)
      refine hK.out _ _ ⟨(blk_cell BK246.out 0).trans rfl, (blk_cell BK246.out 1).trans rfl, (blk_cell BK246.out 2).trans rfl, ((HB.out.cell (World.block_lt_of_cell? w _ hw247_0)).trans hw247_0), ((HB.out.cell (World.block_lt_of_cell? w _ hw247_1)).trans hw247_1), ((HB.out.cell (World.block_lt_of_cell? w _ hw247_2)).trans hw247_2), ((HB.out.cell (World.block_lt_of_cell? w _ hw247_3)).trans hw247_3), ((HB.out.cell (World.block_lt_of_cell? w _ hw247_4)).trans hw247_4), ((HB.out.cell (World.block_lt_of_cell? w _ hw247_5)).trans hw247_5), ((HB.out.cell (World.block_lt_of_cell? w _ hw247_6)).trans hw247_6)⟩ (fun hHeld => ?_)
      clear hK K
      refine norm_ (a' := ?_) ?_ ?_
      rotate_left
      ·show Act.put _ (some 22) _ = _
       simp only [Act.put, List.setIfInBounds_toArray, List.set_cons_zero, List.set_cons_succ, i64_w, i32_w]
       rfl
      refine pu 6 8 (bzz 7 127) (by kernel_rfl) ?_
      refine done_ (by kernel_rfl) ?_
      try go_wp2
      go_ret2
      exact ⟨_, by first | rfl | (simp [errW_none, errW_some] <;> rfl) | (simp [*, errW_none, errW_some] <;> rfl), by first | exact Kd.R_nil _ _ _ _ _ | exact Kd.N_nil _ _ _ _ _ | exact Kd.V_nil _ _ _ _ _ | exact Kd.Q_nil _ _ _ _ _ | exact Kd.S_nil _ _ _ _ _, by repeat (first | (with_reducible first | exact HB.out | apply below_alloc | apply pw_below_drewN | apply below_drew1 | refine below_set ?_ GE246.out) | exact HB.out)⟩
    ·rw [if_neg c5] at H
     exact absurd H (by simp)
   ·rw [if_neg c4] at H
    have c4b0 : decide (x7_1 < (l1.length : Int)) = false := decide_eq_false c4
    clear c4
    by_cases c28 : (x6_1.length : Int) > 20000
    ·rw [if_pos c28] at H
     have c28b0 : decide (20000 < (x6_1.length : Int)) = true := decide_eq_true c28
     have c28b1 : decide (20000 < x6_1.length) = true := decide_eq_true (by omega)
     clear c28
     simp only [Option.some.injEq, Prod.mk.injEq] at H
     obtain ⟨rfl, rfl⟩ := H
     obtain ⟨Ao29, co29, eo29⟩ := Kd.R_slice HO_6.out
     subst eo29
     go_wp2
     go_ret2
     exact ⟨_, by first | rfl | (simp [errW_none, errW_some] <;> rfl) | (simp [*, errW_none, errW_some] <;> rfl), by first | exact Kd.R_nil _ _ _ _ _ | exact Kd.N_nil _ _ _ _ _ | exact Kd.V_nil _ _ _ _ _ | exact Kd.Q_nil _ _ _ _ _ | exact Kd.S_nil _ _ _ _ _, by repeat (first | (with_reducible first | exact HB.out | apply below_alloc | apply pw_below_drewN | apply below_drew1 | refine below_set ?_ GE246.out) | exact HB.out)⟩
    ·rw [if_neg c28] at H
     have c28b0 : decide (20000 < (x6_1.length : Int)) = false := decide_eq_false c28
     have c28b1 : decide (20000 < x6_1.length) = false := decide_eq_false (by omega)
     clear c28
     simp only [Option.some.injEq, Prod.mk.injEq] at H
     obtain ⟨rfl, rfl⟩ := H
     obtain ⟨Ao30, co30, eo30⟩ := Kd.R_slice HO_6.out
     subst eo30
     go_wp2
     go_ret2
     exact ⟨_, by first | rfl | (simp [errW_none, errW_some] <;> rfl) | (simp [*, errW_none, errW_some] <;> rfl), by (with_reducible repeat (first | apply Kd.R_alloc | apply Kd.R_drewN | apply Kd.R_drew)); exact Kd.R_mono HO_6.out (fun _ hk => trivial), by repeat (first | (with_reducible first | exact HB.out | apply below_alloc | apply pw_below_drewN | apply below_drew1 | refine below_set ?_ GE246.out) | exact HB.out)⟩
end Go.Proofs.Ytblonchpophnkaa.F
