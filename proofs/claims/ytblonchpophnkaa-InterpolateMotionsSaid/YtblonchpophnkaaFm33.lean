-- The machine side of a proof, written by a program of the session out of Lean's print of the loaded functions. Lean checks it.
import Derived.Test.YtblonchpophnkaaWc
import Derived.Test.YtblonchpophnkaaWp
import Derived.Test.YtblonchpophnkaaFx0
import Derived.Test.YtblonchpophnkaaFx1
import Derived.Test.YtblonchpophnkaaFp30
namespace Go.Proofs.Ytblonchpophnkaa.F
open Go.RowKit Go.Proofs.YtblonchpophnkaaW.PrintWords Go.Proofs.YtblonchpophnkaaW.PrintLast Go.Proofs.YtblonchpophnkaaW.PrintMore
attribute [local go_sem] max2_int min2_int max_two min_two max_three min_three max_four min_four   -- for this text's walks alone
set_option linter.unusedVariables false
set_option linter.unusedSimpArgs false
attribute [local go_sem high] eqA23
mutual
def swarfref33_Motions.l0 : Nat → List (S27) → Int → List (S51) → Int → Int → Int → Int → Option ((List (S51)) × Int)
 | 0, _, _, _, _, _, _, _ => none
 | k + 1, x1, x2, x10, x11, x269000, x269001, x269002 => if x11 < (x1.length : Int) then (if 0 ≤ x11 then (if x11 ≤ (wrap64 (x11 + 1)) then (if (wrap64 (x11 + 1)) ≤ (x1.length : Int) then ((swarfref33_Positions.f k x269000 x269001 x269002 ((x1.take ((wrap64 (x11 + 1)) : Int).toNat).drop (x11 : Int).toNat)).bind fun bt277 => (swarfref33_Motions.l1 k x1 x2 x10 x11 bt277.1 0 x269000 x269001 x269002)) else (none)) else (none)) else (none)) else (some (x10, 0))
def swarfref33_Motions.l1 : Nat → List (S27) → Int → List (S51) → Int → List (S23) → Int → Int → Int → Int → Option ((List (S51)) × Int)
 | 0, _, _, _, _, _, _, _, _, _ => none
 | k + 1, x1, x2, x10, x11, x12, x14, x269000, x269001, x269002 => if x14 < (x12.length : Int) then (if 0 ≤ x14 then (if (!(((rd_T23 x12 x14).f0) == x269000) || (!(((rd_T23 x12 x14).f1) == x269001) || (!(((rd_T23 x12 x14).f2) == x269002)))) = true then (if 0 ≤ x11 then (if x11 < (x1.length : Int) then (if x10.length < 1954687338268 then (swarfref33_Motions.l1 k x1 x2 (x10 ++ [(⟨(⟨x269000, x269001, x269002⟩ : S23), (⟨(rd_T23 x12 x14).f0, (rd_T23 x12 x14).f1, (rd_T23 x12 x14).f2⟩ : S23), (rd_T27 x1 x11).f3, x2, x11⟩ : S51)]) x11 x12 (wrap64 (x14 + 1)) ((rd_T23 x12 x14).f0) ((rd_T23 x12 x14).f1) ((rd_T23 x12 x14).f2)) else (none)) else (none)) else (none)) else (swarfref33_Motions.l1 k x1 x2 x10 x11 x12 (wrap64 (x14 + 1)) ((rd_T23 x12 x14).f0) ((rd_T23 x12 x14).f1) ((rd_T23 x12 x14).f2))) else (none)) else (swarfref33_Motions.l0 k x1 x2 x10 (wrap64 (x11 + 1)) x269000 x269001 x269002)
end
def swarfref33_Motions.f (k : Nat) (a0_0 : Int) (a0_1 : Int) (a0_2 : Int) (l1 : List (S27)) (a2 : Int) : Option ((List (S51)) × Int) := (swarfref33_Positions.f k a0_0 a0_1 a0_2 l1).bind fun bt269 => (if bt269.2 = 0 then (swarfref33_Motions.l0 k l1 a2 ([] : List (S51)) 0 a0_0 a0_1 a0_2) else (some (([] : List (S51)), bt269.2)))
theorem swarfref33_Motions.mono_l : ∀ k, (∀ y0 y1 y2 y3 y4 y5 y6, LeO (swarfref33_Motions.l0 k y0 y1 y2 y3 y4 y5 y6) (swarfref33_Motions.l0 (k + 1) y0 y1 y2 y3 y4 y5 y6)) ∧ (∀ y0 y1 y2 y3 y4 y5 y6 y7 y8, LeO (swarfref33_Motions.l1 k y0 y1 y2 y3 y4 y5 y6 y7 y8) (swarfref33_Motions.l1 (k + 1) y0 y1 y2 y3 y4 y5 y6 y7 y8))
 | 0 => ⟨fun _ _ _ _ _ _ _ r h => by simp [swarfref33_Motions.l0] at h, fun _ _ _ _ _ _ _ _ _ r h => by simp [swarfref33_Motions.l1] at h⟩
 | k + 1 => by
  obtain ⟨ih0, ih1⟩ := swarfref33_Motions.mono_l k
  refine ⟨?_, ?_⟩
  ·intro y0 y1 y2 y3 y4 y5 y6
   unfold swarfref33_Motions.l0
   repeat' first
   | (with_reducible exact ih0 _ _ _ _ _ _ _)
   | (with_reducible exact ih1 _ _ _ _ _ _ _ _ _)
   | (with_reducible exact swarfref33_Positions.mono _ _ _ _ _)
   | (with_reducible exact LeO.refl _)
   | (with_reducible exact LeO.none _)
   | (with_reducible refine LeO.ite ?_ ?_)
   | (with_reducible refine LeO.bind ?_ (fun _ => ?_))
   | exact ih0 _ _ _ _ _ _ _
   | exact ih1 _ _ _ _ _ _ _ _ _
   | exact swarfref33_Positions.mono _ _ _ _ _
   | exact LeO.none _
   | refine LeO.ite ?_ ?_
   | refine LeO.bind ?_ (fun _ => ?_)
  ·intro y0 y1 y2 y3 y4 y5 y6 y7 y8
   unfold swarfref33_Motions.l1
   repeat' first
   | (with_reducible exact ih0 _ _ _ _ _ _ _)
   | (with_reducible exact ih1 _ _ _ _ _ _ _ _ _)
   | (with_reducible exact swarfref33_Positions.mono _ _ _ _ _)
   | (with_reducible exact LeO.refl _)
   | (with_reducible exact LeO.none _)
   | (with_reducible refine LeO.ite ?_ ?_)
   | (with_reducible refine LeO.bind ?_ (fun _ => ?_))
   | exact ih0 _ _ _ _ _ _ _
   | exact ih1 _ _ _ _ _ _ _ _ _
   | exact swarfref33_Positions.mono _ _ _ _ _
   | exact LeO.none _
   | refine LeO.ite ?_ ?_
   | refine LeO.bind ?_ (fun _ => ?_)
theorem swarfref33_Motions.mono : ∀ a0 a1 a2 a3 a4 k, LeO (swarfref33_Motions.f k a0 a1 a2 a3 a4) (swarfref33_Motions.f (k + 1) a0 a1 a2 a3 a4) := by
 intro a0 a1 a2 a3 a4 k
 obtain ⟨ih0, ih1⟩ := swarfref33_Motions.mono_l k
 unfold swarfref33_Motions.f
 repeat' first
   | (with_reducible exact ih0 _ _ _ _ _ _ _)
   | (with_reducible exact ih1 _ _ _ _ _ _ _ _ _)
   | (with_reducible exact swarfref33_Positions.mono _ _ _ _ _)
   | (with_reducible exact LeO.refl _)
   | (with_reducible exact LeO.none _)
   | (with_reducible refine LeO.ite ?_ ?_)
   | (with_reducible refine LeO.bind ?_ (fun _ => ?_))
   | exact ih0 _ _ _ _ _ _ _
   | exact ih1 _ _ _ _ _ _ _ _ _
   | exact swarfref33_Positions.mono _ _ _ _ _
   | exact LeO.none _
   | refine LeO.ite ?_ ?_
   | refine LeO.bind ?_ (fun _ => ?_)
def swarfref33_Motions.T8 : Bool × List (List Nat × List Nat) := (true, [([], []), ([], []), ([], []), ([], []), ([3], [3]), ([1, 2, 4], [1, 2, 4]), ([0, 5], [0, 5]), ([6], [6]), ([7], [7]), ([7], [7]), ([8, 6, 0, 1, 2, 3, 4, 5, 6, 7, 8], [8]), ([9, 10, 0, 1, 2, 3, 4, 5, 6, 7, 8, 9, 10], [9])])
def swarfref33_Motions.B8 : List Nat := [0, 0, 0, 0, 8, 30, 63, 127, 255, 255, 511, 2047]
theorem swarfref33_Motions.tab8 : rtab .any (opsOf Try.f28 8) = swarfref33_Motions.T8 := by kernel_rfl
theorem swarfref33_Motions.bits8 : waitsOk swarfref33_Motions.T8.2 swarfref33_Motions.B8 = true := by kernel_rfl
def swarfref33_Motions.T13 : Bool × List (List Nat × List Nat) := (true, [([], []), ([], []), ([], []), ([], []), ([2, 3], [2, 3]), ([4], [4]), ([], []), ([], []), ([6, 7], [6, 7]), ([8], [8]), ([9], [9]), ([], []), ([], []), ([1, 5, 10, 11, 12], [1, 5, 10, 11, 12]), ([13], [13]), ([0, 14], [0, 14]), ([15, 15, 0, 1, 2, 3, 4, 5, 6, 7, 8, 9, 10, 11, 12, 13, 14, 15], [0, 15])])
def swarfref33_Motions.B13 : List Nat := [0, 0, 0, 0, 12, 28, 0, 0, 192, 448, 960, 0, 0, 8190, 16382, 32767, 65535]
theorem swarfref33_Motions.tab13 : rtab .any (opsOf Try.f28 13) = swarfref33_Motions.T13 := by kernel_rfl
theorem swarfref33_Motions.bits13 : waitsOk swarfref33_Motions.T13.2 swarfref33_Motions.B13 = true := by kernel_rfl
set_option maxHeartbeats 8000000 in
set_option maxRecDepth 100000 in
theorem swarfref33_Motions.calls (k : Nat) (a0_0 : Int) (a0_1 : Int) (a0_2 : Int) (A1 : Option Addr) (c1 : Nat) (l1 : List (S27)) (a2 : Int) (r1 : List (S51)) (r2 : Int) (w : World) (hr1 : Kd.C k27 w A1 l1.length l1) (hc1 : l1.length ≤ c1) (h : swarfref33_Motions.f k a0_0 a0_1 a0_2 l1 a2 = some (r1, r2)) :
  Calls Try.prog 28 #[.agg #[.int .i64 a0_0, .int .i64 a0_1, .int .i64 a0_2], .slice A1 l1.length c1, .int .i64 a2] w fun e w' => ∃ v0_ : Value, e = .returned (.tuple #[v0_, .int .i64 r2]) ∧ Kd.R k51 51 w' w.heap.size (fun _ => True) v0_ r1 ∧ Below w.heap.size w w' := by
 have hu23 := Try.underlying23
 have hu51 := Try.underlying51
 have HR1 := Aside0.mk hr1
 have HC1 := Aside0.mk hc1
 clear hr1 hc1
 have HB := Aside0.mk (Below.refl w.heap.size w)
 have H : ((swarfref33_Positions.f k a0_0 a0_1 a0_2 l1).bind fun bt269 => (if bt269.2 = 0 then (swarfref33_Motions.l0 k l1 a2 ([] : List (S51)) 0 a0_0 a0_1 a0_2) else (some (([] : List (S51)), bt269.2)))) = some (r1, r2) := h
 clear h
 replace H := Option.bind_eq_some_iff.mp H
 obtain ⟨⟨t269, t272⟩, A40, H⟩ := H
 replace H : (if t272 = 0 then (swarfref33_Motions.l0 k l1 a2 ([] : List (S51)) 0 a0_0 a0_1 a0_2) else (some (([] : List (S51)), t272))) = some (r1, r2) := H
 have A4 := Aside0.mk A40
 clear A40
 by_cases c5 : t272 = 0
 ·rw [if_pos c5] at H
  have c5b0 : (t272 == 0) = true := beq_iff_eq.mpr c5
  have c5b1 : (t272 != 0) = false := bne_eq_false_iff_eq.mpr c5
  clear c5
  have H' := Aside0.mk H
  clear H
  go_enter Try.func28, Try.ntmps28
  go_wp2_with (first | ((with_reducible refine gate_dst (N := 3) rfl ?_); refine box_event ?hg (N := 3) ?hd (cs := #[.int .i64 a0_0, .int .i64 a0_1, .int .i64 a0_2]) (t := 23) ?hr ?_; (case hd => rfl); (case hg => rfl); (case hr => first | (go_simp; done) | (go_simp; rfl)); intro gb268 hg w6 hbox hb; have n0_ := Aside0.mk (below_step (by first | exact HB.out | exact pw_below_drewN HB.out _) hb); have n1_ := Aside0.mk (hbox); have n2_ := Aside0.mk ((by rw [hg]; exact (below_size (by first | exact HB.out | exact pw_below_drewN HB.out _)) : w.heap.size ≤ gb268)); have n3_ := Aside0.mk ((by rw [hg]; exact (below_size (by first | exact HB.out | exact pw_below_drewN HB.out _)) : w.heap.size ≤ gb268)); clear HB; have HB := n0_; have BK268 := n1_; have GW268 := n2_; have GE268 := n3_; clear n0_ n1_ n2_ n3_; clear hb hbox hg; obtain ⟨hcz7_0, hcz7_1, hcz7_2⟩ := cells3 BK268.out; have hfz7_0 := blk_frozen BK268.out 0; have hfz7_1 := blk_frozen BK268.out 1; have hfz7_2 := blk_frozen BK268.out 2) | ((with_reducible refine gate_callee (f := 24) rfl ?_); refine goesL_ (some 18) rfl rfl Try.func24 (by kernel_rfl) rfl #[.agg #[.int .i64 a0_0, .int .i64 a0_1, .int .i64 a0_2], .slice A1 l1.length c1] rfl (by (try simp only [List.map_toArray, List.map_cons, List.map_nil]); first | done | rfl | (simp only [List.length_drop, List.length_take]; rfl)) ?_; (with_reducible refine (swarfref33_Positions.calls k a0_0 a0_1 a0_2 _ _ l1 t269 t272 _ ?side1 ?side2 A4.out).mono ?_); (case side1 => repeat (first | exact (Kd.C_below HR1.out HB.out) | (with_reducible refine Kd.C_alloc ?_ _) | (with_reducible refine Kd.C_drewN ?_ _) | (with_reducible refine Kd.C_drew ?_))); (case side2 => exact HC1.out); rintro e w8 ⟨v270, rfl, ho0, hb⟩; refine ⟨_, rfl, ?_⟩; have n0_ := Aside0.mk (Kd.R_lower (Kd.R_newB ho0 (g := gb268) (o := .cells #[.int .i64 a0_0, .int .i64 a0_1, .int .i64 a0_2] 23 (0, 0)) (by (with_reducible repeat (first | refine blk_drewN ?_ _ | refine blk_drew ?_ | refine blk_alloc ?_ _)); exact BK268.out)) (below_size (by first | exact HB.out | exact pw_below_drewN HB.out _))); have n1_ := Aside0.mk (blk_below (by exact BK268.out) hb); have n2_ := Aside0.mk (below_step (by first | exact HB.out | exact pw_below_drewN HB.out _) hb); clear BK268; clear HB; have HO271 := n0_; have BK268 := n1_; have HB := n2_; clear n0_ n1_ n2_; (try clear hb); (try clear hb2); (try clear hk); (try clear hi); (try clear ho0)))
  go_loopg [10, 11] k (fun kq v10 v11 w' => ∃ (x10_1 : List (S51)) (x11_1 : Int) (x269000_1 : Int) (x269001_1 : Int) (x269002_1 : Int), v11 = .int .i64 x11_1 ∧ Aside0 (swarfref33_Motions.l0 kq l1 a2 x10_1 x11_1 x269000_1 x269001_1 x269002_1 = some (r1, r2)) ∧ Aside0 (kq ≤ k) ∧ Aside0 (Kd.R k51 51 w' w.heap.size (fun _ => True) v10 x10_1) ∧ Aside0 (w'.heap[gb268]? = some (.cells #[.int .i64 x269000_1, .int .i64 x269001_1, .int .i64 x269002_1] 23 (0, 0))) ∧ Aside0 (Below w.heap.size w w'))
  case atStart => exact ⟨(([] : List (S51))), (0), (a0_0), (a0_1), (a0_2), (by first | rfl | (simp; done) | (simp [*]; done)), H', ⟨Nat.le_refl _⟩, ⟨by first | exact Kd.R_nil _ _ _ _ _ | exact Kd.N_nil _ _ _ _ _ | exact Kd.V_nil _ _ _ _ _ | exact Kd.Q_nil _ _ _ _ _ | exact Kd.S_nil _ _ _ _ _⟩, ⟨by (with_reducible repeat (first | refine blk_drewN ?_ _ | refine blk_drew ?_ | refine blk_alloc ?_ _)); exact BK268.out⟩, ⟨by repeat (first | (with_reducible first | exact HB.out | apply below_alloc | apply pw_below_drewN | apply below_drew1 | refine below_set ?_ GE268.out) | exact HB.out)⟩⟩
  case round =>
   clear H'
   try clear c1
   try clear c2
   try clear p2
   try clear c5
   try clear c5b0
   try clear c5b1
   try clear hcz7_0
   try clear hcz7_1
   try clear hcz7_2
   try clear hfz7_0
   try clear hfz7_1
   try clear hfz7_2
   obtain ⟨x10_1, x11_1, x269000_1, x269001_1, x269002_1, rfl, HA, HK1, HO_10, BK268, HB⟩ := hrel
   cases gk with
   | zero => exact absurd HA.out (by simp [swarfref33_Motions.l0])
   | succ k1 =>
    have H := HA.out
    clear HA
    simp only [swarfref33_Motions.l0] at H
    by_cases c9 : x11_1 < (l1.length : Int)
    ·rw [if_pos c9] at H
     have c9b0 : decide (x11_1 < (l1.length : Int)) = true := decide_eq_true c9
     clear c9
     by_cases c10 : 0 ≤ x11_1
     ·rw [if_pos c10] at H
      have c10b0 := eq_true c10
      have c10b1 : decide (0 ≤ x11_1) = true := decide_eq_true c10
      clear c10
      by_cases c11 : x11_1 ≤ (wrap64 (x11_1 + 1))
      ·rw [if_pos c11] at H
       have c11b0 := eq_true c11
       have c11b1 : decide (x11_1 ≤ (wrap64 (x11_1 + 1))) = true := decide_eq_true c11
       by_cases c12 : (wrap64 (x11_1 + 1)) ≤ (l1.length : Int)
       ·rw [if_pos c12] at H
        have c12b0 := eq_true c12
        have c12b1 : decide ((wrap64 (x11_1 + 1)) ≤ (l1.length : Int)) = true := decide_eq_true c12
        obtain ⟨y273, hy273⟩ : ∃ y_ : List (S27), y_ = ((l1.take ((wrap64 (x11_1 + 1)) : Int).toNat).drop (x11_1 : Int).toNat) := ⟨_, rfl⟩
        replace H : ((swarfref33_Positions.f k1 x269000_1 x269001_1 x269002_1 y273).bind fun bt277 => (swarfref33_Motions.l1 k1 l1 a2 x10_1 x11_1 bt277.1 0 x269000_1 x269001_1 x269002_1)) = some (r1, r2) := by first | (rw [hy273]; with_reducible exact H) | (have H2_ := (Option.bind_some _ _).symm.trans H; rw [hy273]; with_reducible exact H2_) | (have H2_ := (Option.bind_some _ _).symm.trans H; with_reducible exact H2_) | with_reducible exact H | (rw [hy273]; exact H) | exact H
        have Ny273 := Aside0.mk hy273
        clear hy273
        replace H := Option.bind_eq_some_iff.mp H
        obtain ⟨⟨t277, t280⟩, A130, H⟩ := H
        replace H : (swarfref33_Motions.l1 k1 l1 a2 x10_1 x11_1 t277 0 x269000_1 x269001_1 x269002_1) = some (r1, r2) := H
        have A13 := Aside0.mk A130
        clear A130
        have H' := Aside0.mk H
        clear H
        try go_wp2
        have n0_ := Aside0.mk (Kd.R_drew HO_10.out)
        have n1_ := Aside0.mk (blk_drew BK268.out)
        have n2_ := Aside0.mk (below_drew1 HB.out)
        clear HO_10
        clear BK268
        clear HB
        have HO_10 := n0_
        have BK268 := n1_
        have HB := n2_
        clear n0_ n1_ n2_
        have q15 : ((wrap64 (x11_1 + 1)) : Int) ≤ ((l1.length : Int) : Int) := of_decide_eq_true (by first | (with_reducible assumption) | assumption)
        obtain ⟨i015, hi015, _, hsz15, _⟩ := info_parts info27
        have hroom15 : l1.length ≤ c1 := HC1.out
        have hC15 : Kd.C k27 _ A1 l1.length l1 := HR1.out
        have ql15 : (x11_1 : Int) ≤ ((wrap64 (x11_1 + 1)) : Int) := of_decide_eq_true (by first | (with_reducible assumption) | assumption)
        have q015 : (0 : Int) ≤ (x11_1 : Int) := of_decide_eq_true (by first | (with_reducible assumption) | assumption)
        have hcut15 := cut_mid (P := Try.prog) 37 27 .i64 .i64 Try.underlying37 hi015 7 hsz15 A1 l1.length c1 x11_1 (wrap64 (x11_1 + 1)) q015 ql15 q15 hroom15
        have hr15 := Kd.C_mid (lo := (x11_1 : Int).toNat) (hi := ((wrap64 (x11_1 + 1)) : Int).toNat) (c := c1) hC15 (by omega) (by omega) hroom15
        obtain ⟨A15, hA15⟩ : ∃ A_, A_ = (if c1 = (x11_1 : Int).toNat then A1 else (A1 : Option Addr).map (·.add ((x11_1 : Int).toNat * 7))) := ⟨_, rfl⟩
        obtain ⟨c15, hc15⟩ : ∃ c_, c_ = c1 - (x11_1 : Int).toNat := ⟨_, rfl⟩
        have hy15 : y273.length = ((wrap64 (x11_1 + 1)) : Int).toNat - (x11_1 : Int).toNat := (by rw [Ny273.out, List.length_drop, List.length_take] <;> omega)
        rw [show ((l1).take ((wrap64 (x11_1 + 1)) : Int).toNat).drop (x11_1 : Int).toNat = y273 from Ny273.out.symm] at hr15
        replace hr15 : Kd.C k27 _ A15 y273.length y273 := (by rw [hA15]; exact hr15)
        rw [← hy15, ← hA15, ← hc15] at hcut15
        have HR276 := Aside0.mk hr15
        have HC276 := Aside0.mk (show y273.length ≤ c15 from by rw [hy15, hc15]; exact Nat.sub_le_sub_right (Nat.le_trans (by omega) hroom15) _)
        clear hr15 hC15 hroom15 hi015 hsz15 hc15
        have KY15 := Aside0.mk hy15
        have KA15 := Aside0.mk hA15
        clear hy15 hA15
        replace q15 := eq_true q15
        refine start_ (n := 12) (S := fun w' => w'.cell? ⟨gb268, 0, none⟩ = some (.int .i64 x269000_1) ∧ w'.cell? ⟨gb268, 1, none⟩ = some (.int .i64 x269001_1) ∧ w'.cell? ⟨gb268, 2, none⟩ = some (.int .i64 x269002_1)) (ds := []) #[false, false, false, false, false, false, false, false, false, false, false, false] (by kernel_rfl) rfl rfl ⟨(blk_cell BK268.out 0).trans rfl, (blk_cell BK268.out 1).trans rfl, (blk_cell BK268.out 2).trans rfl⟩ (fun hHeld => ?_); refine with_tabW swarfref33_Motions.tab8 swarfref33_Motions.bits8 (fun HT_ HW_ => ?_)
        generalize wr.drew = w14 at HO_10 BK268 HB HR276 hHeld ⊢
        refine pu 1 32 (bzz 12 2) (any_of HT_.out (by kernel_rfl)) ?_
        refine pu 2 33 (bzz 12 6) (any_of HT_.out (by kernel_rfl)) ?_
        refine pu 3 34 (bzz 12 14) (any_of HT_.out (by kernel_rfl)) ?_
        refine pu 4 35 (bzz 12 30) (any_of HT_.out (by kernel_rfl)) ?_
        refine pu 5 36 (bzz 12 62) (any_of HT_.out (by kernel_rfl)) ?_
        refine ta 0 31 (bzz 12 63) (take_ofW HT_.out HW_.out (by kernel_rfl)) hHeld ?_
        refine one_ (i := 6) (N := some 37) (bzz 12 127) rfl rfl (one_of HT_.out (by kernel_rfl)) (by decide) (fun K hK => ?_)
        refine goes_ Try.func24 (by kernel_rfl) rfl #[.agg #[.int .i64 x269000_1, .int .i64 x269001_1, .int .i64 x269002_1], .slice A15 y273.length c15] (by rfl) rfl rfl (by (try simp only [List.map_toArray, List.map_cons, List.map_nil]); first | done | rfl | (simp only [List.length_drop, List.length_take]; rfl)) ?_
        with_reducible refine (swarfref33_Positions.calls k1 x269000_1 x269001_1 x269002_1 _ _ y273 t277 t280 _ ?side1 ?side2 A13.out).mono ?_
        (case side1 => repeat (first | exact (Kd.C_below HR276.out HB.out) | (with_reducible refine Kd.C_alloc ?_ _) | (with_reducible refine Kd.C_drewN ?_ _) | (with_reducible refine Kd.C_drew ?_)))
        (case side2 => exact HC276.out)
        rintro e w16 ⟨v278, rfl, ho0, hb⟩
        refine ⟨_, rfl, ?_⟩
        have n0_ := Aside0.mk (Kd.R_below (by first | exact HO_10.out | exact Kd.R_drewN HO_10.out _) hb)
        have n1_ := Aside0.mk (Kd.R_lower (Kd.R_newB ho0 (g := gb268) (o := .cells #[.int .i64 x269000_1, .int .i64 x269001_1, .int .i64 x269002_1] 23 (0, 0)) (by (with_reducible repeat (first | refine blk_drewN ?_ _ | refine blk_drew ?_ | refine blk_alloc ?_ _)); exact BK268.out)) (below_size (by first | exact HB.out | exact pw_below_drewN HB.out _)))
        have n2_ := Aside0.mk (blk_below (by exact BK268.out) hb)
        have n3_ := Aside0.mk (below_step (by first | exact HB.out | exact pw_below_drewN HB.out _) hb)
        clear HO_10
        clear BK268
        clear HB
        have HO_10 := n0_
        have HO279 := n1_
        have BK268 := n2_
        have HB := n3_
        clear n0_ n1_ n2_ n3_
        (try clear hb)
        (try clear hb2)
        (try clear hk)
        (try clear hi)
        (try clear ho0)
        refine hK.out _ _ ⟨(blk_cell BK268.out 0).trans rfl, (blk_cell BK268.out 1).trans rfl, (blk_cell BK268.out 2).trans rfl⟩ (fun hHeld => ?_)
        clear hK K
        refine norm_ (a' := ?_) ?_ ?_
        rotate_left
        ·show Act.put _ (some 37) _ = _
         simp only [Act.put, List.setIfInBounds_toArray, List.set_cons_zero, List.set_cons_succ, i64_w, i32_w]
         rfl
        refine pu 7 30 (bzz 12 255) (any_of HT_.out (by kernel_rfl)) ?_
        refine pu 8 38 (bzz 12 511) (any_of HT_.out (by kernel_rfl)) ?_
        refine pu 9 39 (bzz 12 1023) (any_of HT_.out (by kernel_rfl)) ?_
        refine pu 10 12 (bzz 12 2047) (any_of HT_.out (by kernel_rfl)) ?_
        refine pu 11 13 (bzz 12 4095) (any_of HT_.out (by kernel_rfl)) ?_
        refine done_ (done_of HT_.out (by kernel_rfl)) ?_
        try go_wp2
        go_loopg [10, 14] k1 (fun kq v10 v14 w' => ∃ (x10_2 : List (S51)) (x14_2 : Int) (x269000_2 : Int) (x269001_2 : Int) (x269002_2 : Int), v14 = .int .i64 x14_2 ∧ Aside0 (swarfref33_Motions.l1 kq l1 a2 x10_2 x11_1 t277 x14_2 x269000_2 x269001_2 x269002_2 = some (r1, r2)) ∧ Aside0 (kq ≤ k1) ∧ Aside0 (Kd.R k51 51 w' w.heap.size (fun _ => True) v10 x10_2) ∧ Aside0 (Kd.R k23 23 w' w.heap.size (fun k_ => k_ ≠ gb268) v278 t277) ∧ Aside0 (w'.heap[gb268]? = some (.cells #[.int .i64 x269000_2, .int .i64 x269001_2, .int .i64 x269002_2] 23 (0, 0))) ∧ Aside0 (Below w.heap.size w w'))
        case atStart => exact ⟨(x10_1), (0), (x269000_1), (x269001_1), (x269002_1), (by first | rfl | (simp; done) | (simp [*]; done)), H', ⟨Nat.le_refl _⟩, ⟨by (with_reducible repeat (first | apply Kd.R_alloc | apply Kd.R_drewN | apply Kd.R_drew)); exact HO_10.out⟩, ⟨by (with_reducible repeat (first | apply Kd.R_alloc | apply Kd.R_drewN | apply Kd.R_drew)); exact Kd.R_mono HO279.out (fun _ hk => hk.2)⟩, ⟨by (with_reducible repeat (first | refine blk_drewN ?_ _ | refine blk_drew ?_ | refine blk_alloc ?_ _)); exact BK268.out⟩, ⟨by repeat (first | (with_reducible first | exact HB.out | apply below_alloc | apply pw_below_drewN | apply below_drew1 | refine below_set ?_ GE268.out) | exact HB.out)⟩⟩
        case round =>
         clear H'
         try clear c1
         try clear q1
         try clear c2
         try clear p2
         try clear c5
         try clear c5b0
         try clear c5b1
         try clear p6
         try clear c9
         try clear c9b0
         try clear c10
         try clear c10b0
         try clear c10b1
         try clear c11
         try clear c11b0
         try clear c11b1
         try clear c12
         try clear c12b0
         try clear c12b1
         try clear c15
         try clear q15
         try clear hcz7_0
         try clear hcz7_1
         try clear hcz7_2
         try clear hfz7_0
         try clear hfz7_1
         try clear hfz7_2
         try clear p2
         try clear q015
         try clear q15
         obtain ⟨x10_2, x14_2, x269000_2, x269001_2, x269002_2, rfl, HA, HK2, HO_10, HO_12, BK268, HB⟩ := hrel
         cases gk with
         | zero => exact absurd HA.out (by simp [swarfref33_Motions.l1])
         | succ k2 =>
          have H := HA.out
          clear HA
          simp only [swarfref33_Motions.l1] at H
          by_cases c17 : x14_2 < (t277.length : Int)
          ·rw [if_pos c17] at H
           have c17b0 : decide (x14_2 < (t277.length : Int)) = true := decide_eq_true c17
           clear c17
           by_cases c18 : 0 ≤ x14_2
           ·rw [if_pos c18] at H
            have c18b0 : decide (0 ≤ x14_2) = true := decide_eq_true c18
            clear c18
            by_cases c19 : (!(((rd_T23 t277 x14_2).f0) == x269000_2) || (!(((rd_T23 t277 x14_2).f1) == x269001_2) || (!(((rd_T23 t277 x14_2).f2) == x269002_2)))) = true
            ·rw [if_pos c19] at H
             have c19b0 : (!(((rd_T23 t277 x14_2).f0) == x269000_2) || (!(((rd_T23 t277 x14_2).f1) == x269001_2) || (!(((rd_T23 t277 x14_2).f2) == x269002_2)))) = true := c19
             clear c19
             by_cases c20 : 0 ≤ x11_1
             ·rw [if_pos c20] at H
              have c20b0 : decide (0 ≤ x11_1) = true := decide_eq_true c20
              clear c20
              by_cases c21 : x11_1 < (l1.length : Int)
              ·rw [if_pos c21] at H
               have c21b0 : decide (x11_1 < (l1.length : Int)) = true := decide_eq_true c21
               clear c21
               by_cases c22 : x10_2.length < 1954687338268
               ·rw [if_pos c22] at H
                have LMc22 := Aside0.mk c22
                clear c22
                obtain ⟨y284, hy284⟩ : ∃ y_ : List (S51), y_ = (x10_2 ++ [(⟨(⟨x269000_2, x269001_2, x269002_2⟩ : S23), (⟨(rd_T23 t277 x14_2).f0, (rd_T23 t277 x14_2).f1, (rd_T23 t277 x14_2).f2⟩ : S23), (rd_T27 l1 x11_1).f3, a2, x11_1⟩ : S51)]) := ⟨_, rfl⟩
                replace H : (swarfref33_Motions.l1 k2 l1 a2 y284 x11_1 t277 (wrap64 (x14_2 + 1)) ((rd_T23 t277 x14_2).f0) ((rd_T23 t277 x14_2).f1) ((rd_T23 t277 x14_2).f2)) = some (r1, r2) := by first | (rw [hy284]; with_reducible exact H) | (have H2_ := (Option.bind_some _ _).symm.trans H; rw [hy284]; with_reducible exact H2_) | (have H2_ := (Option.bind_some _ _).symm.trans H; with_reducible exact H2_) | with_reducible exact H | (rw [hy284]; exact H) | exact H
                have Ny284 := Aside0.mk hy284
                clear hy284
                have H' := Aside0.mk H
                clear H
                obtain ⟨Ao23, co23, eo23⟩ := Kd.R_slice HO_12.out
                subst eo23
                try go_wp2
                have n0_ := Aside0.mk (Kd.R_drew HO_10.out)
                have n1_ := Aside0.mk (Kd.R_drew HO_12.out)
                have n2_ := Aside0.mk (blk_drew BK268.out)
                have n3_ := Aside0.mk (below_drew1 HB.out)
                clear HO_10
                clear HO_12
                clear BK268
                clear HB
                have HO_10 := n0_
                have HO_12 := n1_
                have BK268 := n2_
                have HB := n3_
                clear n0_ n1_ n2_ n3_
                have p281 : 0 ≤ (x14_2 : Int) := of_decide_eq_true (by first | (with_reducible assumption) | assumption)
                have q281 : x14_2 < (t277.length : Int) := of_decide_eq_true (by first | (with_reducible assumption) | assumption)
                obtain ⟨ad281, e281, hx281_0, hx281_1, hx281_2⟩ := at_T23 (Kd.R_reads' HO_12.out).2.2 x14_2 p281 q281
                cases e281
                replace p281 := eq_true p281
                replace q281 := eq_true q281
                refine start_ (n := 6) (S := fun w' => w'.cell? ⟨gb268, 0, none⟩ = some (.int .i64 x269000_2) ∧ w'.cell? ⟨gb268, 1, none⟩ = some (.int .i64 x269001_2) ∧ w'.cell? ⟨gb268, 2, none⟩ = some (.int .i64 x269002_2) ∧ w'.cell? (ad281.add ((x14_2).toNat * 3)) = some (.int .i64 ((rd_T23 t277 x14_2).f0)) ∧ w'.cell? ⟨(ad281.add ((x14_2).toNat * 3)).block, (ad281.add ((x14_2).toNat * 3)).off + 1, none⟩ = some (.int .i64 ((rd_T23 t277 x14_2).f1)) ∧ w'.cell? ⟨(ad281.add ((x14_2).toNat * 3)).block, (ad281.add ((x14_2).toNat * 3)).off + 2, none⟩ = some (.int .i64 ((rd_T23 t277 x14_2).f2))) (ds := []) #[false, false, false, false, false, false] (by kernel_rfl) rfl rfl ⟨(blk_cell BK268.out 0).trans rfl, (blk_cell BK268.out 1).trans rfl, (blk_cell BK268.out 2).trans rfl, hx281_0, hx281_1, hx281_2⟩ (fun hHeld => ?_)
                generalize wr.drew = w24 at HO_10 HO_12 BK268 HB hx281_0 hx281_1 hx281_2 hHeld ⊢
                refine pu 0 46 (bzz 6 1) (by kernel_rfl) ?_
                refine pu 1 47 (bzz 6 3) (by kernel_rfl) ?_
                refine pu 2 48 (bzz 6 7) (by kernel_rfl) ?_
                refine ta 3 49 (bzz 6 15) (by kernel_rfl) hHeld ?_
                refine ta 4 50 (bzz 6 31) (by kernel_rfl) hHeld ?_
                refine pu 5 51 (bzz 6 63) (by kernel_rfl) ?_
                refine done_ (by kernel_rfl) ?_
                try go_wp2
                have n0_ := Aside0.mk (Kd.R_drew HO_10.out)
                have n1_ := Aside0.mk (Kd.R_drew HO_12.out)
                have n2_ := Aside0.mk (blk_drew BK268.out)
                have n3_ := Aside0.mk (below_drew1 HB.out)
                clear HO_10
                clear HO_12
                clear BK268
                clear HB
                have HO_10 := n0_
                have HO_12 := n1_
                have BK268 := n2_
                have HB := n3_
                clear n0_ n1_ n2_ n3_
                have p282 : 0 ≤ (x14_2 : Int) := of_decide_eq_true (by first | (with_reducible assumption) | assumption)
                have q282 : x14_2 < (t277.length : Int) := of_decide_eq_true (by first | (with_reducible assumption) | assumption)
                obtain ⟨ad282, e282, hx282_0, hx282_1, hx282_2⟩ := at_T23 (Kd.R_reads' HO_12.out).2.2 x14_2 p282 q282
                obtain rfl : ad281 = ad282 := (by injection e282)
                replace p282 := eq_true p282
                replace q282 := eq_true q282
                have p283 : 0 ≤ (x11_1 : Int) := of_decide_eq_true (by first | (with_reducible assumption) | assumption)
                have q283 : x11_1 < (l1.length : Int) := of_decide_eq_true (by first | (with_reducible assumption) | assumption)
                obtain ⟨ad283, e283, hx283_0, hx283_1, hx283_2, hx283_3, hx283_4, hx283_5, hx283_6⟩ := at_T27 HR1.out x11_1 p283 q283
                have hw283_6 := hx283_6
                have hw283_5 := hx283_5
                have hw283_4 := hx283_4
                have hw283_3 := hx283_3
                have hw283_2 := hx283_2
                have hw283_1 := hx283_1
                have hw283_0 := hx283_0
                cases e283
                replace hx283_0 := (HB.out.cell (World.block_lt_of_cell? w _ hx283_0)).trans hx283_0
                replace hx283_1 := (HB.out.cell (World.block_lt_of_cell? w _ hx283_1)).trans hx283_1
                replace hx283_2 := (HB.out.cell (World.block_lt_of_cell? w _ hx283_2)).trans hx283_2
                replace hx283_3 := (HB.out.cell (World.block_lt_of_cell? w _ hx283_3)).trans hx283_3
                replace hx283_4 := (HB.out.cell (World.block_lt_of_cell? w _ hx283_4)).trans hx283_4
                replace hx283_5 := (HB.out.cell (World.block_lt_of_cell? w _ hx283_5)).trans hx283_5
                replace hx283_6 := (HB.out.cell (World.block_lt_of_cell? w _ hx283_6)).trans hx283_6
                replace p283 := eq_true p283
                replace q283 := eq_true q283
                refine start_ (n := 17) (S := fun w' => w'.cell? ⟨gb268, 0, none⟩ = some (.int .i64 x269000_2) ∧ w'.cell? ⟨gb268, 1, none⟩ = some (.int .i64 x269001_2) ∧ w'.cell? ⟨gb268, 2, none⟩ = some (.int .i64 x269002_2) ∧ w'.cell? (ad281.add ((x14_2).toNat * 3)) = some (.int .i64 ((rd_T23 t277 x14_2).f0)) ∧ w'.cell? ⟨(ad281.add ((x14_2).toNat * 3)).block, (ad281.add ((x14_2).toNat * 3)).off + 1, none⟩ = some (.int .i64 ((rd_T23 t277 x14_2).f1)) ∧ w'.cell? ⟨(ad281.add ((x14_2).toNat * 3)).block, (ad281.add ((x14_2).toNat * 3)).off + 2, none⟩ = some (.int .i64 ((rd_T23 t277 x14_2).f2)) ∧ w'.cell? (ad283.add ((x11_1).toNat * 7)) = some (.int .i64 ((rd_T27 l1 x11_1).f0)) ∧ w'.cell? ⟨(ad283.add ((x11_1).toNat * 7)).block, (ad283.add ((x11_1).toNat * 7)).off + 1, none⟩ = some (.int .i64 ((rd_T27 l1 x11_1).f1.f0)) ∧ w'.cell? ⟨(ad283.add ((x11_1).toNat * 7)).block, (ad283.add ((x11_1).toNat * 7)).off + 2, none⟩ = some (.int .i64 ((rd_T27 l1 x11_1).f1.f1)) ∧ w'.cell? ⟨(ad283.add ((x11_1).toNat * 7)).block, (ad283.add ((x11_1).toNat * 7)).off + 3, none⟩ = some (.int .i64 ((rd_T27 l1 x11_1).f1.f2)) ∧ w'.cell? ⟨(ad283.add ((x11_1).toNat * 7)).block, (ad283.add ((x11_1).toNat * 7)).off + 4, none⟩ = some (.int .i64 ((rd_T27 l1 x11_1).f2.f0)) ∧ w'.cell? ⟨(ad283.add ((x11_1).toNat * 7)).block, (ad283.add ((x11_1).toNat * 7)).off + 5, none⟩ = some (.int .i64 ((rd_T27 l1 x11_1).f2.f1)) ∧ w'.cell? ⟨(ad283.add ((x11_1).toNat * 7)).block, (ad283.add ((x11_1).toNat * 7)).off + 6, none⟩ = some (.int .i64 ((rd_T27 l1 x11_1).f3))) (ds := [14, 15]) #[false, false, false, false, false, false, false, false, false, false, false, false, false, false, false, false, false] (by kernel_rfl) rfl rfl ⟨(blk_cell BK268.out 0).trans rfl, (blk_cell BK268.out 1).trans rfl, (blk_cell BK268.out 2).trans rfl, hx282_0, hx282_1, hx282_2, ((HB.out.cell (World.block_lt_of_cell? w _ hw283_0)).trans hw283_0), ((HB.out.cell (World.block_lt_of_cell? w _ hw283_1)).trans hw283_1), ((HB.out.cell (World.block_lt_of_cell? w _ hw283_2)).trans hw283_2), ((HB.out.cell (World.block_lt_of_cell? w _ hw283_3)).trans hw283_3), ((HB.out.cell (World.block_lt_of_cell? w _ hw283_4)).trans hw283_4), ((HB.out.cell (World.block_lt_of_cell? w _ hw283_5)).trans hw283_5), ((HB.out.cell (World.block_lt_of_cell? w _ hw283_6)).trans hw283_6)⟩ (fun hHeld => ?_); refine with_tabW swarfref33_Motions.tab13 swarfref33_Motions.bits13 (fun HT_ HW_ => ?_)
                generalize w24.drew = w25 at HO_10 HO_12 BK268 HB hx282_0 hx282_1 hx282_2 hx283_0 hx283_1 hx283_2 hx283_3 hx283_4 hx283_5 hx283_6 hHeld ⊢
                refine pu 0 52 (bzz 17 1) (any_of HT_.out (by kernel_rfl)) ?_
                refine pu 2 54 (bzz 17 5) (any_of HT_.out (by kernel_rfl)) ?_
                refine pu 3 55 (bzz 17 13) (any_of HT_.out (by kernel_rfl)) ?_
                refine pu 4 56 (bzz 17 29) (any_of HT_.out (by kernel_rfl)) ?_
                refine pu 6 58 (bzz 17 93) (any_of HT_.out (by kernel_rfl)) ?_
                refine pu 7 59 (bzz 17 221) (any_of HT_.out (by kernel_rfl)) ?_
                refine pu 8 60 (bzz 17 477) (any_of HT_.out (by kernel_rfl)) ?_
                refine pu 9 61 (bzz 17 989) (any_of HT_.out (by kernel_rfl)) ?_
                refine pu 11 63 (bzz 17 3037) (any_of HT_.out (by kernel_rfl)) ?_
                refine pu 12 64 (bzz 17 7133) (any_of HT_.out (by kernel_rfl)) ?_
                refine ta 1 53 (bzz 17 7135) (take_ofW HT_.out HW_.out (by kernel_rfl)) hHeld ?_
                refine ta 5 57 (bzz 17 7167) (take_ofW HT_.out HW_.out (by kernel_rfl)) hHeld ?_
                refine ta 10 62 (bzz 17 8191) (take_ofW HT_.out HW_.out (by kernel_rfl)) hHeld ?_
                refine pu 13 65 (bzz 17 16383) (any_of HT_.out (by kernel_rfl)) ?_
                refine last_ (i := 14) (N := some 66) (bzz 17 32767) rfl rfl (one_of HT_.out (by kernel_rfl)) (by decide) (fun K hK => ?_)
                refine value_ (w1 := ?_) (v := ?_) (by rfl) rfl ?_ ?_
                rotate_left 2
                ·go_simp
                 constructor
                 ·rfl
                 ·rfl
                refine hK.out _ _ ?_
                clear hK K
                refine norm_ (a' := ?_) ?_ ?_
                rotate_left
                ·show Act.put _ (some 66) _ = _
                 simp only [Act.put, List.setIfInBounds_toArray, List.set_cons_zero, List.set_cons_succ, i64_w, i32_w]
                 rfl
                refine last_ (i := 15) (N := some 67) (bzz 17 65535) rfl rfl (one_of HT_.out (by kernel_rfl)) (by decide) (fun K hK => ?_)
                refine Kd.R_append_step k51 (w0 := w) w.heap.size (by rfl) (.tmp 52) (.tmp 66) 47 51 (.agg #[(.int .i64 0), (.int .i64 0), (.int .i64 0), (.int .i64 0), (.int .i64 0), (.int .i64 0), (.int .i64 0), (.int .i64 0), (.int .i64 0)]) 72 rfl Try.underlying47 info51 rfl (by decide) (by omega) u10 x10_2 (⟨(⟨x269000_2, x269001_2, x269002_2⟩ : S23), (⟨(rd_T23 t277 x14_2).f0, (rd_T23 t277 x14_2).f1, (rd_T23 t277 x14_2).f2⟩ : S23), (rd_T27 l1 x11_1).f3, a2, x11_1⟩ : S51) [.int .i64 x269000_2, .int .i64 x269001_2, .int .i64 x269002_2, .int .i64 ((rd_T23 t277 x14_2).f0), .int .i64 ((rd_T23 t277 x14_2).f1), .int .i64 ((rd_T23 t277 x14_2).f2), .int .i64 ((rd_T27 l1 x11_1).f3), .int .i64 a2, .int .i64 x11_1] (fun _ => True) (fun _ => False) rfl rfl ?aP (fun _ hk => hk.elim) ?aF ?aO ?aB ?aS ?aL ?_
                (case aP => exact k51_mkM _ _ _ (⟨(⟨x269000_2, x269001_2, x269002_2⟩ : S23), (⟨(rd_T23 t277 x14_2).f0, (rd_T23 t277 x14_2).f1, (rd_T23 t277 x14_2).f2⟩ : S23), (rd_T27 l1 x11_1).f3, a2, x11_1⟩ : S51))
                (case aB => exact (by repeat (first | (with_reducible first | exact HB.out | apply below_alloc | apply pw_below_drewN | apply below_drew1 | refine below_set ?_ GE268.out) | exact HB.out)))
                (case aF => exact (fun _ _ => trivial))
                (case aO => exact (by (with_reducible repeat (first | apply Kd.R_alloc | apply Kd.R_drewN | apply Kd.R_drew)); exact HO_10.out))
                (case aS => exact (below_size (by first | exact HB.out | exact pw_below_drewN HB.out _)))
                (case aL => have := LMc22.out; omega)
                intro v285 w26 ho hb hg hat
                rw [← Ny284.out] at ho
                have n0_ := Aside0.mk (Kd.R_over' (by (with_reducible repeat (first | apply Kd.R_alloc | apply Kd.R_drewN | apply Kd.R_drew)); exact HO_12.out) (Kd.R_typed (by (with_reducible repeat (first | apply Kd.R_alloc | apply Kd.R_drewN | apply Kd.R_drew)); exact HO_10.out)) (by decide) hg)
                have n1_ := Aside0.mk (blk_grown (g := gb268) (o := .cells #[.int .i64 x269000_2, .int .i64 x269001_2, .int .i64 x269002_2] 23 (0, 0)) (by (with_reducible repeat (first | refine blk_drewN ?_ _ | refine blk_drew ?_ | refine blk_alloc ?_ _)); exact BK268.out) hg (Kd.R_ne HO_10.out BK268.out (by decide)))
                have n2_ := Aside0.mk (hb)
                have n3_ := Aside0.mk (ho)
                clear HO_12
                clear BK268
                clear HB
                clear HO_10
                have HO_12 := n0_
                have BK268 := n1_
                have HB := n2_
                have HO286 := n3_
                clear n0_ n1_ n2_ n3_
                clear ho hb hg hat
                refine hK.out _ _ ?_
                clear hK K
                refine norm_ (a' := ?_) ?_ ?_
                rotate_left
                ·show Act.put _ (some 67) _ = _
                 simp only [Act.put, List.setIfInBounds_toArray, List.set_cons_zero, List.set_cons_succ, i64_w, i32_w]
                 rfl
                refine pu 16 10 (bzz 17 131071) (any_of HT_.out (by kernel_rfl)) ?_
                refine done_ (done_of HT_.out (by kernel_rfl)) ?_
                have p287 : 0 ≤ (x14_2 : Int) := of_decide_eq_true (by first | (with_reducible assumption) | assumption)
                have q287 : x14_2 < (t277.length : Int) := of_decide_eq_true (by first | (with_reducible assumption) | assumption)
                obtain ⟨ad287, e287, hx287_0, hx287_1, hx287_2⟩ := at_T23 (Kd.R_reads' HO_12.out).2.2 x14_2 p287 q287
                obtain rfl : ad281 = ad287 := (by injection e287)
                replace p287 := eq_true p287
                replace q287 := eq_true q287
                obtain ⟨hcz27_0, hcz27_1, hcz27_2⟩ := cells3 BK268.out
                have hfz27_0 := blk_frozen BK268.out 0
                have hfz27_1 := blk_frozen BK268.out 1
                have hfz27_2 := blk_frozen BK268.out 2
                try go_wp2
                go_roundg k2
                case measure => have := HK1.out; have := HK2.out; omega
                case rel => exact ⟨(y284), (wrap64 (x14_2 + 1)), ((rd_T23 t277 x14_2).f0), ((rd_T23 t277 x14_2).f1), ((rd_T23 t277 x14_2).f2), (by first | rfl | (simp; done) | (simp [*]; done)), H', ⟨by have := HK1.out; have := HK2.out; omega⟩, ⟨by (with_reducible repeat (first | apply Kd.R_alloc | apply Kd.R_drewN | apply Kd.R_drew)); exact Kd.R_mono (Kd.R_far (p := ⟨gb268, 2, none⟩) (Kd.R_far (p := ⟨gb268, 1, none⟩) (Kd.R_far (p := ⟨gb268, 0, none⟩) (Kd.R_types HO286.out BK268.out (by decide)) (fun _ hk => hk.2) (.int .i64 ((rd_T23 t277 x14_2).f0))) (fun _ hk => hk.2) (.int .i64 ((rd_T23 t277 x14_2).f1))) (fun _ hk => hk.2) (.int .i64 ((rd_T23 t277 x14_2).f2))) (fun _ hk => trivial)⟩, ⟨by (with_reducible repeat (first | apply Kd.R_alloc | apply Kd.R_drewN | apply Kd.R_drew)); exact Kd.R_mono (Kd.R_far (p := ⟨gb268, 2, none⟩) (Kd.R_far (p := ⟨gb268, 1, none⟩) (Kd.R_far (p := ⟨gb268, 0, none⟩) (Kd.R_mono HO_12.out (fun k_ hk => (⟨hk, hk⟩ : _ ∧ k_ ≠ gb268))) (fun _ hk => hk.2) (.int .i64 ((rd_T23 t277 x14_2).f0))) (fun _ hk => hk.2) (.int .i64 ((rd_T23 t277 x14_2).f1))) (fun _ hk => hk.2) (.int .i64 ((rd_T23 t277 x14_2).f2))) (fun _ hk => hk.1)⟩, ⟨by (with_reducible repeat (first | refine blk_drewN ?_ _ | refine blk_drew ?_ | refine blk_alloc ?_ _)); refine blk_put (cs := #[.int .i64 ((rd_T23 t277 x14_2).f0), .int .i64 ((rd_T23 t277 x14_2).f1), .int .i64 x269002_2]) ?_ 2 _ rfl; (with_reducible repeat (first | refine blk_drewN ?_ _ | refine blk_drew ?_ | refine blk_alloc ?_ _)); refine blk_put (cs := #[.int .i64 ((rd_T23 t277 x14_2).f0), .int .i64 x269001_2, .int .i64 x269002_2]) ?_ 1 _ rfl; (with_reducible repeat (first | refine blk_drewN ?_ _ | refine blk_drew ?_ | refine blk_alloc ?_ _)); refine blk_put (cs := #[.int .i64 x269000_2, .int .i64 x269001_2, .int .i64 x269002_2]) ?_ 0 _ rfl; (with_reducible repeat (first | refine blk_drewN ?_ _ | refine blk_drew ?_ | refine blk_alloc ?_ _)); exact BK268.out⟩, ⟨by repeat (first | (with_reducible first | exact HB.out | apply below_alloc | apply pw_below_drewN | apply below_drew1 | refine below_set ?_ GE268.out) | exact HB.out)⟩⟩
               ·rw [if_neg c22] at H
                exact absurd H (by simp)
              ·rw [if_neg c21] at H
               exact absurd H (by simp)
             ·rw [if_neg c20] at H
              exact absurd H (by simp)
            ·rw [if_neg c19] at H
             have c19b0 : (!(((rd_T23 t277 x14_2).f0) == x269000_2) || (!(((rd_T23 t277 x14_2).f1) == x269001_2) || (!(((rd_T23 t277 x14_2).f2) == x269002_2)))) = false := by simpa using c19
             clear c19
             have H' := Aside0.mk H
             clear H
             obtain ⟨Ao28, co28, eo28⟩ := Kd.R_slice HO_12.out
             subst eo28
             try go_wp2
             have n0_ := Aside0.mk (Kd.R_drew HO_10.out)
             have n1_ := Aside0.mk (Kd.R_drew HO_12.out)
             have n2_ := Aside0.mk (blk_drew BK268.out)
             have n3_ := Aside0.mk (below_drew1 HB.out)
             clear HO_10
             clear HO_12
             clear BK268
             clear HB
             have HO_10 := n0_
             have HO_12 := n1_
             have BK268 := n2_
             have HB := n3_
             clear n0_ n1_ n2_ n3_
             have p281 : 0 ≤ (x14_2 : Int) := of_decide_eq_true (by first | (with_reducible assumption) | assumption)
             have q281 : x14_2 < (t277.length : Int) := of_decide_eq_true (by first | (with_reducible assumption) | assumption)
             obtain ⟨ad281, e281, hx281_0, hx281_1, hx281_2⟩ := at_T23 (Kd.R_reads' HO_12.out).2.2 x14_2 p281 q281
             cases e281
             replace p281 := eq_true p281
             replace q281 := eq_true q281
             refine start_ (n := 6) (S := fun w' => w'.cell? ⟨gb268, 0, none⟩ = some (.int .i64 x269000_2) ∧ w'.cell? ⟨gb268, 1, none⟩ = some (.int .i64 x269001_2) ∧ w'.cell? ⟨gb268, 2, none⟩ = some (.int .i64 x269002_2) ∧ w'.cell? (ad281.add ((x14_2).toNat * 3)) = some (.int .i64 ((rd_T23 t277 x14_2).f0)) ∧ w'.cell? ⟨(ad281.add ((x14_2).toNat * 3)).block, (ad281.add ((x14_2).toNat * 3)).off + 1, none⟩ = some (.int .i64 ((rd_T23 t277 x14_2).f1)) ∧ w'.cell? ⟨(ad281.add ((x14_2).toNat * 3)).block, (ad281.add ((x14_2).toNat * 3)).off + 2, none⟩ = some (.int .i64 ((rd_T23 t277 x14_2).f2))) (ds := []) #[false, false, false, false, false, false] (by kernel_rfl) rfl rfl ⟨(blk_cell BK268.out 0).trans rfl, (blk_cell BK268.out 1).trans rfl, (blk_cell BK268.out 2).trans rfl, hx281_0, hx281_1, hx281_2⟩ (fun hHeld => ?_)
             generalize wr.drew = w29 at HO_10 HO_12 BK268 HB hx281_0 hx281_1 hx281_2 hHeld ⊢
             refine pu 0 46 (bzz 6 1) (by kernel_rfl) ?_
             refine pu 1 47 (bzz 6 3) (by kernel_rfl) ?_
             refine pu 2 48 (bzz 6 7) (by kernel_rfl) ?_
             refine ta 3 49 (bzz 6 15) (by kernel_rfl) hHeld ?_
             refine ta 4 50 (bzz 6 31) (by kernel_rfl) hHeld ?_
             refine pu 5 51 (bzz 6 63) (by kernel_rfl) ?_
             refine done_ (by kernel_rfl) ?_
             have p288 : 0 ≤ (x14_2 : Int) := of_decide_eq_true (by first | (with_reducible assumption) | assumption)
             have q288 : x14_2 < (t277.length : Int) := of_decide_eq_true (by first | (with_reducible assumption) | assumption)
             obtain ⟨ad288, e288, hx288_0, hx288_1, hx288_2⟩ := at_T23 (Kd.R_reads' HO_12.out).2.2 x14_2 p288 q288
             obtain rfl : ad281 = ad288 := (by injection e288)
             replace p288 := eq_true p288
             replace q288 := eq_true q288
             obtain ⟨hcz30_0, hcz30_1, hcz30_2⟩ := cells3 BK268.out
             have hfz30_0 := blk_frozen BK268.out 0
             have hfz30_1 := blk_frozen BK268.out 1
             have hfz30_2 := blk_frozen BK268.out 2
             try go_wp2
             go_roundg k2
             case measure => have := HK1.out; have := HK2.out; omega
             case rel => exact ⟨(x10_2), (wrap64 (x14_2 + 1)), ((rd_T23 t277 x14_2).f0), ((rd_T23 t277 x14_2).f1), ((rd_T23 t277 x14_2).f2), (by first | rfl | (simp; done) | (simp [*]; done)), H', ⟨by have := HK1.out; have := HK2.out; omega⟩, ⟨by (with_reducible repeat (first | apply Kd.R_alloc | apply Kd.R_drewN | apply Kd.R_drew)); exact Kd.R_mono (Kd.R_far (p := ⟨gb268, 2, none⟩) (Kd.R_far (p := ⟨gb268, 1, none⟩) (Kd.R_far (p := ⟨gb268, 0, none⟩) (Kd.R_types HO_10.out BK268.out (by decide)) (fun _ hk => hk.2) (.int .i64 ((rd_T23 t277 x14_2).f0))) (fun _ hk => hk.2) (.int .i64 ((rd_T23 t277 x14_2).f1))) (fun _ hk => hk.2) (.int .i64 ((rd_T23 t277 x14_2).f2))) (fun _ hk => trivial)⟩, ⟨by (with_reducible repeat (first | apply Kd.R_alloc | apply Kd.R_drewN | apply Kd.R_drew)); exact Kd.R_mono (Kd.R_far (p := ⟨gb268, 2, none⟩) (Kd.R_far (p := ⟨gb268, 1, none⟩) (Kd.R_far (p := ⟨gb268, 0, none⟩) (Kd.R_mono HO_12.out (fun k_ hk => (⟨hk, hk⟩ : _ ∧ k_ ≠ gb268))) (fun _ hk => hk.2) (.int .i64 ((rd_T23 t277 x14_2).f0))) (fun _ hk => hk.2) (.int .i64 ((rd_T23 t277 x14_2).f1))) (fun _ hk => hk.2) (.int .i64 ((rd_T23 t277 x14_2).f2))) (fun _ hk => hk.1)⟩, ⟨by (with_reducible repeat (first | refine blk_drewN ?_ _ | refine blk_drew ?_ | refine blk_alloc ?_ _)); refine blk_put (cs := #[.int .i64 ((rd_T23 t277 x14_2).f0), .int .i64 ((rd_T23 t277 x14_2).f1), .int .i64 x269002_2]) ?_ 2 _ rfl; (with_reducible repeat (first | refine blk_drewN ?_ _ | refine blk_drew ?_ | refine blk_alloc ?_ _)); refine blk_put (cs := #[.int .i64 ((rd_T23 t277 x14_2).f0), .int .i64 x269001_2, .int .i64 x269002_2]) ?_ 1 _ rfl; (with_reducible repeat (first | refine blk_drewN ?_ _ | refine blk_drew ?_ | refine blk_alloc ?_ _)); refine blk_put (cs := #[.int .i64 x269000_2, .int .i64 x269001_2, .int .i64 x269002_2]) ?_ 0 _ rfl; (with_reducible repeat (first | refine blk_drewN ?_ _ | refine blk_drew ?_ | refine blk_alloc ?_ _)); exact BK268.out⟩, ⟨by repeat (first | (with_reducible first | exact HB.out | apply below_alloc | apply pw_below_drewN | apply below_drew1 | refine below_set ?_ GE268.out) | exact HB.out)⟩⟩
           ·rw [if_neg c18] at H
            exact absurd H (by simp)
          ·rw [if_neg c17] at H
           have c17b0 : decide (x14_2 < (t277.length : Int)) = false := decide_eq_false c17
           clear c17
           have H' := Aside0.mk H
           clear H
           obtain ⟨Ao31, co31, eo31⟩ := Kd.R_slice HO_12.out
           subst eo31
           go_wp2
           go_roundg k2
           case measure => have := HK1.out; have := HK2.out; omega
           case rel => exact ⟨(x10_2), (wrap64 (x11_1 + 1)), (x269000_2), (x269001_2), (x269002_2), (by first | rfl | (simp; done) | (simp [*]; done)), H', ⟨by have := HK1.out; have := HK2.out; omega⟩, ⟨by (with_reducible repeat (first | apply Kd.R_alloc | apply Kd.R_drewN | apply Kd.R_drew)); exact HO_10.out⟩, ⟨by (with_reducible repeat (first | refine blk_drewN ?_ _ | refine blk_drew ?_ | refine blk_alloc ?_ _)); exact BK268.out⟩, ⟨by repeat (first | (with_reducible first | exact HB.out | apply below_alloc | apply pw_below_drewN | apply below_drew1 | refine below_set ?_ GE268.out) | exact HB.out)⟩⟩
       ·rw [if_neg c12] at H
        exact absurd H (by simp)
      ·rw [if_neg c11] at H
       exact absurd H (by simp)
     ·rw [if_neg c10] at H
      exact absurd H (by simp)
    ·rw [if_neg c9] at H
     have c9b0 : decide (x11_1 < (l1.length : Int)) = false := decide_eq_false c9
     clear c9
     simp only [Option.some.injEq, Prod.mk.injEq] at H
     obtain ⟨rfl, rfl⟩ := H
     go_wp2
     go_ret2
     exact ⟨_, by first | rfl | (simp [errW_none, errW_some] <;> rfl) | (simp [*, errW_none, errW_some] <;> rfl), by (with_reducible repeat (first | apply Kd.R_alloc | apply Kd.R_drewN | apply Kd.R_drew)); exact HO_10.out, by repeat (first | (with_reducible first | exact HB.out | apply below_alloc | apply pw_below_drewN | apply below_drew1 | refine below_set ?_ GE268.out) | exact HB.out)⟩
 ·rw [if_neg c5] at H
  have c5b0 : (t272 == 0) = false := beq_eq_false_iff_ne.mpr c5
  have c5b1 : (t272 != 0) = true := bne_iff_ne.mpr c5
  simp only [Option.some.injEq, Prod.mk.injEq] at H
  obtain ⟨rfl, rfl⟩ := H
  go_enter Try.func28, Try.ntmps28
  go_wp2_with (first | ((with_reducible refine gate_dst (N := 3) rfl ?_); refine box_event ?hg (N := 3) ?hd (cs := #[.int .i64 a0_0, .int .i64 a0_1, .int .i64 a0_2]) (t := 23) ?hr ?_; (case hd => rfl); (case hg => rfl); (case hr => first | (go_simp; done) | (go_simp; rfl)); intro gb268 hg w32 hbox hb; have n0_ := Aside0.mk (below_step (by first | exact HB.out | exact pw_below_drewN HB.out _) hb); have n1_ := Aside0.mk (hbox); have n2_ := Aside0.mk ((by rw [hg]; exact (below_size (by first | exact HB.out | exact pw_below_drewN HB.out _)) : w.heap.size ≤ gb268)); have n3_ := Aside0.mk ((by rw [hg]; exact (below_size (by first | exact HB.out | exact pw_below_drewN HB.out _)) : w.heap.size ≤ gb268)); clear HB; have HB := n0_; have BK268 := n1_; have GW268 := n2_; have GE268 := n3_; clear n0_ n1_ n2_ n3_; clear hb hbox hg; obtain ⟨hcz33_0, hcz33_1, hcz33_2⟩ := cells3 BK268.out; have hfz33_0 := blk_frozen BK268.out 0; have hfz33_1 := blk_frozen BK268.out 1; have hfz33_2 := blk_frozen BK268.out 2) | ((with_reducible refine gate_callee (f := 24) rfl ?_); refine goesL_ (some 18) rfl rfl Try.func24 (by kernel_rfl) rfl #[.agg #[.int .i64 a0_0, .int .i64 a0_1, .int .i64 a0_2], .slice A1 l1.length c1] rfl (by (try simp only [List.map_toArray, List.map_cons, List.map_nil]); first | done | rfl | (simp only [List.length_drop, List.length_take]; rfl)) ?_; (with_reducible refine (swarfref33_Positions.calls k a0_0 a0_1 a0_2 _ _ l1 t269 t272 _ ?side1 ?side2 A4.out).mono ?_); (case side1 => repeat (first | exact (Kd.C_below HR1.out HB.out) | (with_reducible refine Kd.C_alloc ?_ _) | (with_reducible refine Kd.C_drewN ?_ _) | (with_reducible refine Kd.C_drew ?_))); (case side2 => exact HC1.out); rintro e w34 ⟨v270, rfl, ho0, hb⟩; refine ⟨_, rfl, ?_⟩; have n0_ := Aside0.mk (Kd.R_lower (Kd.R_newB ho0 (g := gb268) (o := .cells #[.int .i64 a0_0, .int .i64 a0_1, .int .i64 a0_2] 23 (0, 0)) (by (with_reducible repeat (first | refine blk_drewN ?_ _ | refine blk_drew ?_ | refine blk_alloc ?_ _)); exact BK268.out)) (below_size (by first | exact HB.out | exact pw_below_drewN HB.out _))); have n1_ := Aside0.mk (blk_below (by exact BK268.out) hb); have n2_ := Aside0.mk (below_step (by first | exact HB.out | exact pw_below_drewN HB.out _) hb); clear BK268; clear HB; have HO271 := n0_; have BK268 := n1_; have HB := n2_; clear n0_ n1_ n2_; (try clear hb); (try clear hb2); (try clear hk); (try clear hi); (try clear ho0)))
  go_ret2
  exact ⟨_, by first | rfl | (simp [errW_none, errW_some] <;> rfl) | (simp [*, errW_none, errW_some] <;> rfl), by first | exact Kd.R_nil _ _ _ _ _ | exact Kd.N_nil _ _ _ _ _ | exact Kd.V_nil _ _ _ _ _ | exact Kd.Q_nil _ _ _ _ _ | exact Kd.S_nil _ _ _ _ _, by repeat (first | (with_reducible first | exact HB.out | apply below_alloc | apply pw_below_drewN | apply below_drew1 | refine below_set ?_ GE268.out) | exact HB.out)⟩
end Go.Proofs.Ytblonchpophnkaa.F
