/- The closure of Motions, by a contract: what it tells, for every list of positions and all that it has captured. -/
import Derived.Test.YtblonchpophnkaaHp
import Derived.Test.YtblonchpophnkaaWp
import Derived.Test.YtblonchpophnkaaFx1
namespace Go.Proofs.Ytblonchpophnkaa.F
open Go.RowKit Go.Proofs.YtblonchpophnkaaW.PrintWords Go.Proofs.YtblonchpophnkaaW.PrintLast Go.Proofs.YtblonchpophnkaaW.PrintMore
set_option linter.unusedVariables false
set_option linter.unusedSimpArgs false
attribute [local go_sem high] eqA23
theorem blk_ne {w : World} {g g' : Nat} {c c' : Array Value} {t t' : TypeId} {f f' : Nat × Nat} (h : w.heap[g]? = some (.cells c t f)) (h' : w.heap[g']? = some (.cells c' t' f')) (ht : t ≠ t') : g ≠ g' := by
 rintro rfl
 rw [h] at h'
 injection h' with h'
 injection h' with _ h'
 exact ht h'
def interpolate_Motions_1.l0 : Nat → List S27 → Int → Int → List S23 → List S51 → Int → Int → Int → Int → Option (List S51 × Int × Int × Int)
 | 0, _, _, _, _, _, _, _, _, _ => none
 | k + 1, l, tool, i, pl, ol, j, x, y, z => if j < (pl.length : Int) then (if 0 ≤ j then (if (!(x == ((rd_T23 pl j).f0)) || (!(y == ((rd_T23 pl j).f1)) || (!(z == ((rd_T23 pl j).f2))))) = true then (if 0 ≤ i then (if i < (l.length : Int) then (if ol.length < 1954687338268 then (interpolate_Motions_1.l0 k l tool i pl (ol ++ [(⟨(⟨x, y, z⟩ : S23), (⟨((rd_T23 pl j).f0), ((rd_T23 pl j).f1), ((rd_T23 pl j).f2)⟩ : S23), ((rd_T27 l i).f3), tool, i⟩ : S51)]) (wrap64 (j + 1)) ((rd_T23 pl j).f0) ((rd_T23 pl j).f1) ((rd_T23 pl j).f2)) else none) else none) else none) else (interpolate_Motions_1.l0 k l tool i pl ol (wrap64 (j + 1)) ((rd_T23 pl j).f0) ((rd_T23 pl j).f1) ((rd_T23 pl j).f2))) else none) else some (ol, x, y, z)
theorem interpolate_Motions_1.mono_l : ∀ k, (∀ y0 y1 y2 y3 y4 y5 y6 y7 y8, LeO (interpolate_Motions_1.l0 k y0 y1 y2 y3 y4 y5 y6 y7 y8) (interpolate_Motions_1.l0 (k + 1) y0 y1 y2 y3 y4 y5 y6 y7 y8))
 | 0 => fun _ _ _ _ _ _ _ _ _ r h => by simp [interpolate_Motions_1.l0] at h
 | k + 1 => by
  have ih0 := interpolate_Motions_1.mono_l k
  intro y0 y1 y2 y3 y4 y5 y6 y7 y8
  unfold interpolate_Motions_1.l0
  repeat' first
  | (with_reducible exact ih0 _ _ _ _ _ _ _ _ _)
  | (with_reducible exact LeO.refl _)
  | (with_reducible exact LeO.none _)
  | (with_reducible refine LeO.ite ?_ ?_)
  | exact LeO.refl _
  | refine LeO.ite ?_ ?_
/-- what the closure leaves: the list in box G, the position in box A; the other boxes as they were -/
def Mot (gbA gbG gbL gbT gbF gbM : Nat) (Al : Option Addr) (ln cl : Nat) (tool : Int) (cF cM : Array Value) (w : World) (ol : List S51) (x y z : Int) (w' : World) : Prop := ∃ v : Value, w'.heap[gbG]? = some (.cells #[v] 47 (0, 0)) ∧ w'.heap[gbA]? = some (.cells #[.int .i64 x, .int .i64 y, .int .i64 z] 23 (0, 0)) ∧ w'.heap[gbL]? = some (.cells #[.slice Al ln cl] 37 (0, 0)) ∧ w'.heap[gbT]? = some (.cells #[.int .i64 tool] 3 (0, 0)) ∧ w'.heap[gbF]? = some (.cells cF 23 (0, 0)) ∧ w'.heap[gbM]? = some (.cells cM 27 (0, 0)) ∧ Kd.R k51 51 w' w.heap.size (fun _ => True) v ol ∧ Below w.heap.size w w'
def interpolate_Motions_1.T4 : Bool × List (List Nat × List Nat) := (true, [([], []), ([], []), ([], []), ([], []), ([], []), ([3, 4], [3, 4]), ([5], [5]), ([6], [6]), ([], []), ([], []), ([1, 2, 7, 8, 9], [1, 2, 7, 8, 9]), ([10], [10]), ([0, 11], [0, 11]), ([12, 12, 0, 1, 2, 3, 4, 5, 6, 7, 8, 9, 10, 11, 12], [12])])
def interpolate_Motions_1.B4 : List Nat := [0, 0, 0, 0, 0, 24, 56, 120, 0, 0, 1022, 2046, 4095, 8191]
theorem interpolate_Motions_1.tab4 : rtab .any (opsOf Try.f45 4) = interpolate_Motions_1.T4 := by kernel_rfl
theorem interpolate_Motions_1.bits4 : waitsOk interpolate_Motions_1.T4.2 interpolate_Motions_1.B4 = true := by kernel_rfl
set_option maxRecDepth 100000 in
set_option maxHeartbeats 16000000 in
theorem interpolate_Motions_1.calls (k : Nat) (i x0 y0 z0 tool : Int) (Ap Al : Option Addr) (cp cl : Nat) (pl : List S23) (l : List S27) (ol0 : List S51) (v0 : Value) (gbA gbG gbL gbT gbF gbM : Nat) (cF cM : Array Value) (r1 : List S51) (rx ry rz : Int) (w we : World)
 (HA : we.heap[gbA]? = some (.cells #[.int .i64 x0, .int .i64 y0, .int .i64 z0] 23 (0, 0))) (HG : we.heap[gbG]? = some (.cells #[v0] 47 (0, 0))) (HL : we.heap[gbL]? = some (.cells #[.slice Al l.length cl] 37 (0, 0))) (HT : we.heap[gbT]? = some (.cells #[.int .i64 tool] 3 (0, 0))) (HF : we.heap[gbF]? = some (.cells cF 23 (0, 0))) (HM : we.heap[gbM]? = some (.cells cM 27 (0, 0)))
 (hFA : gbF ≠ gbA) (hgA : w.heap.size ≤ gbA) (hgG : w.heap.size ≤ gbG) (HO0 : Kd.R k51 51 we w.heap.size (fun _ => True) v0 ol0) (HP0 : Kd.R k23 23 we w.heap.size (fun k_ => k_ ≠ gbA) (.slice Ap pl.length cp) pl) (HRl : Kd.C k27 w Al l.length l) (HB0 : Below w.heap.size w we) (h : interpolate_Motions_1.l0 k l tool i pl ol0 0 x0 y0 z0 = some (r1, rx, ry, rz)) :
 Calls Try.prog 45 #[.int .i64 i, .slice Ap pl.length cp, .pointer (some ⟨gbA, 0, none⟩), .pointer (some ⟨gbG, 0, none⟩), .pointer (some ⟨gbL, 0, none⟩), .pointer (some ⟨gbT, 0, none⟩)] we fun e w' => e = .returned (.tuple #[]) ∧ Mot gbA gbG gbL gbT gbF gbM Al l.length cl tool cF cM w r1 rx ry rz w' := by
 have hu23 := Try.underlying23
 have hu27 := Try.underlying27
 have hu51 := Try.underlying51
 have NBG_A := Aside0.mk (blk_ne HG HA (by decide) : gbG ≠ gbA)
 have NBA_G := Aside0.mk (blk_ne HA HG (by decide) : gbA ≠ gbG)
 have NBL_A := Aside0.mk (blk_ne HL HA (by decide) : gbL ≠ gbA)
 have NBA_L := Aside0.mk (blk_ne HA HL (by decide) : gbA ≠ gbL)
 have NBT_A := Aside0.mk (blk_ne HT HA (by decide) : gbT ≠ gbA)
 have NBA_T := Aside0.mk (blk_ne HA HT (by decide) : gbA ≠ gbT)
 have NBM_A := Aside0.mk (blk_ne HM HA (by decide) : gbM ≠ gbA)
 have NBA_M := Aside0.mk (blk_ne HA HM (by decide) : gbA ≠ gbM)
 have NBF_A := Aside0.mk (hFA : gbF ≠ gbA)
 have NBA_F := Aside0.mk (hFA.symm : gbA ≠ gbF)
 have NBL_G := Aside0.mk (blk_ne HL HG (by decide) : gbL ≠ gbG)
 have NBG_L := Aside0.mk (blk_ne HG HL (by decide) : gbG ≠ gbL)
 have NBT_G := Aside0.mk (blk_ne HT HG (by decide) : gbT ≠ gbG)
 have NBG_T := Aside0.mk (blk_ne HG HT (by decide) : gbG ≠ gbT)
 have NBF_G := Aside0.mk (blk_ne HF HG (by decide) : gbF ≠ gbG)
 have NBG_F := Aside0.mk (blk_ne HG HF (by decide) : gbG ≠ gbF)
 have NBM_G := Aside0.mk (blk_ne HM HG (by decide) : gbM ≠ gbG)
 have NBG_M := Aside0.mk (blk_ne HG HM (by decide) : gbG ≠ gbM)
 have GEA := Aside0.mk hgA
 have GEG := Aside0.mk hgG
 have BKA := Aside0.mk HA
 have BKG := Aside0.mk HG
 have BKL := Aside0.mk HL
 have BKT := Aside0.mk HT
 have BKF := Aside0.mk HF
 have BKM := Aside0.mk HM
 have HO := Aside0.mk HO0
 have HP := Aside0.mk HP0
 have HR1 := Aside0.mk HRl
 have HB := Aside0.mk HB0
 have H' := Aside0.mk h
 clear HA HG HL HT HF HM hFA hgA hgG HO0 HP0 HRl HB0 h
 go_enter Try.func45, Try.ntmps45
 go_wp2
 go_loopg [12] k (fun kq v12 w' => ∃ (j x y z : Int) (ol : List S51) (v : Value), v12 = .int .i64 j ∧ Aside0 (interpolate_Motions_1.l0 kq l tool i pl ol j x y z = some (r1, rx, ry, rz)) ∧ Aside0 (kq ≤ k) ∧ Aside0 (w'.heap[gbA]? = some (.cells #[.int .i64 x, .int .i64 y, .int .i64 z] 23 (0, 0))) ∧ Aside0 (w'.heap[gbG]? = some (.cells #[v] 47 (0, 0))) ∧ Aside0 (w'.heap[gbL]? = some (.cells #[.slice Al l.length cl] 37 (0, 0))) ∧ Aside0 (w'.heap[gbT]? = some (.cells #[.int .i64 tool] 3 (0, 0))) ∧ Aside0 (w'.heap[gbF]? = some (.cells cF 23 (0, 0))) ∧ Aside0 (w'.heap[gbM]? = some (.cells cM 27 (0, 0))) ∧ Aside0 (Kd.R k51 51 w' w.heap.size (fun _ => True) v ol) ∧ Aside0 (Kd.R k23 23 w' w.heap.size (fun k_ => k_ ≠ gbA) (.slice Ap pl.length cp) pl) ∧ Aside0 (Below w.heap.size w w'))
 case atStart => exact ⟨0, x0, y0, z0, ol0, v0, rfl, H', ⟨Nat.le_refl _⟩, BKA, BKG, BKL, BKT, BKF, BKM, HO, HP, HB⟩
 case round =>
  clear H' HO HP HB BKA BKG BKL BKT BKF BKM
  obtain ⟨j, x, y, z, ol, v, rfl, HA, HK1, BKA, BKG, BKL, BKT, BKF, BKM, HO, HP, HB⟩ := hrel
  cases gk with
  | zero => exact absurd HA.out (by simp [interpolate_Motions_1.l0])
  | succ k1 =>
   have H := HA.out
   clear HA
   simp only [interpolate_Motions_1.l0] at H
   by_cases c4 : j < (pl.length : Int)
   · rw [if_pos c4] at H
     have c4b0 : decide (j < (pl.length : Int)) = true := decide_eq_true c4
     by_cases c5 : 0 ≤ j
     · rw [if_pos c5] at H
       have p1 := c5
       have q1 := c4
       clear c4 c5
       obtain ⟨adp, e1, hx0, hx1, hx2⟩ := at_T23 (Kd.R_reads' HP.out).2.2 j p1 q1
       cases e1
       replace p1 := eq_true p1
       replace q1 := eq_true q1
       have HH := Aside0.mk H
       clear H
       go_upto_region 2 with (fail)
       go_cut [9] (fun v9 wc => ∃ (gbO : Nat), v9 = .pointer (some ⟨gbO, 0, none⟩) ∧ Aside0 (wc.heap[gbO]? = some (.cells #[.int .i64 ((rd_T23 pl j).f0), .int .i64 ((rd_T23 pl j).f1), .int .i64 ((rd_T23 pl j).f2)] 23 (0, 0))) ∧ Aside0 (wc.heap[gbA]? = some (.cells #[.int .i64 x, .int .i64 y, .int .i64 z] 23 (0, 0))) ∧ Aside0 (wc.heap[gbG]? = some (.cells #[v] 47 (0, 0))) ∧ Aside0 (wc.heap[gbL]? = some (.cells #[.slice Al l.length cl] 37 (0, 0))) ∧ Aside0 (wc.heap[gbT]? = some (.cells #[.int .i64 tool] 3 (0, 0))) ∧ Aside0 (wc.heap[gbF]? = some (.cells cF 23 (0, 0))) ∧ Aside0 (wc.heap[gbM]? = some (.cells cM 27 (0, 0))) ∧ Aside0 (Kd.R k51 51 wc w.heap.size (fun _ => True) v ol) ∧ Aside0 (Kd.R k23 23 wc w.heap.size (fun k_ => k_ ≠ gbA) (.slice (some adp) pl.length cp) pl) ∧ Aside0 (Below w.heap.size w wc) ∧ Aside0 (w.heap.size ≤ gbO) ∧ Aside0 (gbO ≠ gbA) ∧ Aside0 (gbO ≠ gbG) ∧ Aside0 (gbO ≠ gbL) ∧ Aside0 (gbO ≠ gbT) ∧ Aside0 (gbO ≠ gbF) ∧ Aside0 (gbO ≠ gbM) ∧ Aside0 (gbA ≠ gbO) ∧ Aside0 (gbG ≠ gbO) ∧ Aside0 (gbL ≠ gbO) ∧ Aside0 (gbT ≠ gbO) ∧ Aside0 (gbF ≠ gbO) ∧ Aside0 (gbM ≠ gbO))
       case first =>
        go_wp2_with (first | ((with_reducible refine gate_dst (N := 9) rfl ?_); refine box_event ?hg (N := 9) ?hd (cs := #[.int .i64 0, .int .i64 0, .int .i64 0]) (t := 23) ?hr ?_; (case hd => rfl); (case hg => rfl); (case hr => first | (go_simp; done) | (go_simp; rfl)); intro gbO hg wz1 hbox hb; have n0_ := Aside0.mk (blk_below (g := gbA) (o := .cells #[.int .i64 x, .int .i64 y, .int .i64 z] 23 (0, 0)) (BKA.out) hb); have n1_ := Aside0.mk (blk_below (g := gbG) (o := .cells #[v] 47 (0, 0)) (BKG.out) hb); have n2_ := Aside0.mk (blk_below (g := gbL) (o := .cells #[.slice Al l.length cl] 37 (0, 0)) (BKL.out) hb); have n3_ := Aside0.mk (blk_below (g := gbT) (o := .cells #[.int .i64 tool] 3 (0, 0)) (BKT.out) hb); have n4_ := Aside0.mk (blk_below (g := gbF) (o := .cells cF 23 (0, 0)) (BKF.out) hb); have n5_ := Aside0.mk (blk_below (g := gbM) (o := .cells cM 27 (0, 0)) (BKM.out) hb); have n6_ := Aside0.mk (Kd.R_below (HO.out) hb); have n7_ := Aside0.mk (Kd.R_below (Kd.R_elderB (HP.out) gbO (by rw [hg]; exact Nat.le_refl _)) hb); have n8_ := Aside0.mk (below_step (HB.out) hb); have n9_ := Aside0.mk (hbox); have n10_ := Aside0.mk ((by rw [hg]; exact (below_size (HB.out))) : w.heap.size ≤ gbO); have n11_ := Aside0.mk ((by rw [hg]; exact Nat.ne_of_lt (blk_lt (g := gbA) (o := .cells #[.int .i64 x, .int .i64 y, .int .i64 z] 23 (0, 0)) (BKA.out))) : gbA ≠ gbO); have n12_ := Aside0.mk ((by rw [hg]; exact Nat.ne_of_gt (blk_lt (g := gbA) (o := .cells #[.int .i64 x, .int .i64 y, .int .i64 z] 23 (0, 0)) (BKA.out))) : gbO ≠ gbA); have n13_ := Aside0.mk ((by rw [hg]; exact Nat.ne_of_lt (blk_lt (g := gbG) (o := .cells #[v] 47 (0, 0)) (BKG.out))) : gbG ≠ gbO); have n14_ := Aside0.mk ((by rw [hg]; exact Nat.ne_of_gt (blk_lt (g := gbG) (o := .cells #[v] 47 (0, 0)) (BKG.out))) : gbO ≠ gbG); have n15_ := Aside0.mk ((by rw [hg]; exact Nat.ne_of_lt (blk_lt (g := gbL) (o := .cells #[.slice Al l.length cl] 37 (0, 0)) (BKL.out))) : gbL ≠ gbO); have n16_ := Aside0.mk ((by rw [hg]; exact Nat.ne_of_gt (blk_lt (g := gbL) (o := .cells #[.slice Al l.length cl] 37 (0, 0)) (BKL.out))) : gbO ≠ gbL); have n17_ := Aside0.mk ((by rw [hg]; exact Nat.ne_of_lt (blk_lt (g := gbT) (o := .cells #[.int .i64 tool] 3 (0, 0)) (BKT.out))) : gbT ≠ gbO); have n18_ := Aside0.mk ((by rw [hg]; exact Nat.ne_of_gt (blk_lt (g := gbT) (o := .cells #[.int .i64 tool] 3 (0, 0)) (BKT.out))) : gbO ≠ gbT); have n19_ := Aside0.mk ((by rw [hg]; exact Nat.ne_of_lt (blk_lt (g := gbF) (o := .cells cF 23 (0, 0)) (BKF.out))) : gbF ≠ gbO); have n20_ := Aside0.mk ((by rw [hg]; exact Nat.ne_of_gt (blk_lt (g := gbF) (o := .cells cF 23 (0, 0)) (BKF.out))) : gbO ≠ gbF); have n21_ := Aside0.mk ((by rw [hg]; exact Nat.ne_of_lt (blk_lt (g := gbM) (o := .cells cM 27 (0, 0)) (BKM.out))) : gbM ≠ gbO); have n22_ := Aside0.mk ((by rw [hg]; exact Nat.ne_of_gt (blk_lt (g := gbM) (o := .cells cM 27 (0, 0)) (BKM.out))) : gbO ≠ gbM); clear BKA BKG BKL BKT BKF BKM HO HP HB; have BKA := n0_; have BKG := n1_; have BKL := n2_; have BKT := n3_; have BKF := n4_; have BKM := n5_; have HO := n6_; have HP := n7_; have HB := n8_; have BKO := n9_; have GEO := n10_; have NBA_O := n11_; have NBO_A := n12_; have NBG_O := n13_; have NBO_G := n14_; have NBL_O := n15_; have NBO_L := n16_; have NBT_O := n17_; have NBO_T := n18_; have NBF_O := n19_; have NBO_F := n20_; have NBM_O := n21_; have NBO_M := n22_; clear n0_ n1_ n2_ n3_ n4_ n5_ n6_ n7_ n8_ n9_ n10_ n11_ n12_ n13_ n14_ n15_ n16_ n17_ n18_ n19_ n20_ n21_ n22_; clear hb hbox hg; obtain ⟨hmO0, hmO1, hmO2⟩ := cells3 BKO.out; have hfzm_O_0 := blk_frozen BKO.out 0; have hfzm_O_1 := blk_frozen BKO.out 1; have hfzm_O_2 := blk_frozen BKO.out 2))
        go_meet
        case rel => exact ⟨gbO, rfl, ⟨by (with_reducible repeat (first | refine blk_drewN ?_ _ | refine blk_drew ?_ | refine blk_alloc ?_ _)); refine blk_put (cs := #[.int .i64 ((rd_T23 pl j).f0), .int .i64 ((rd_T23 pl j).f1), .int .i64 0]) ?_ 2 _ rfl; (with_reducible repeat (first | refine blk_drewN ?_ _ | refine blk_drew ?_ | refine blk_alloc ?_ _)); refine blk_put (cs := #[.int .i64 ((rd_T23 pl j).f0), .int .i64 0, .int .i64 0]) ?_ 1 _ rfl; (with_reducible repeat (first | refine blk_drewN ?_ _ | refine blk_drew ?_ | refine blk_alloc ?_ _)); refine blk_put (cs := #[.int .i64 0, .int .i64 0, .int .i64 0]) ?_ 0 _ rfl; (with_reducible repeat (first | refine blk_drewN ?_ _ | refine blk_drew ?_ | refine blk_alloc ?_ _)); exact BKO.out⟩, ⟨by (with_reducible repeat (first | refine blk_drewN ?_ _ | refine blk_drew ?_ | refine blk_alloc ?_ _)); refine blk_far ?_ NBA_O.out _; (with_reducible repeat (first | refine blk_drewN ?_ _ | refine blk_drew ?_ | refine blk_alloc ?_ _)); refine blk_far ?_ NBA_O.out _; (with_reducible repeat (first | refine blk_drewN ?_ _ | refine blk_drew ?_ | refine blk_alloc ?_ _)); refine blk_far ?_ NBA_O.out _; (with_reducible repeat (first | refine blk_drewN ?_ _ | refine blk_drew ?_ | refine blk_alloc ?_ _)); exact BKA.out⟩, ⟨by (with_reducible repeat (first | refine blk_drewN ?_ _ | refine blk_drew ?_ | refine blk_alloc ?_ _)); refine blk_far ?_ NBG_O.out _; (with_reducible repeat (first | refine blk_drewN ?_ _ | refine blk_drew ?_ | refine blk_alloc ?_ _)); refine blk_far ?_ NBG_O.out _; (with_reducible repeat (first | refine blk_drewN ?_ _ | refine blk_drew ?_ | refine blk_alloc ?_ _)); refine blk_far ?_ NBG_O.out _; (with_reducible repeat (first | refine blk_drewN ?_ _ | refine blk_drew ?_ | refine blk_alloc ?_ _)); exact BKG.out⟩, ⟨by (with_reducible repeat (first | refine blk_drewN ?_ _ | refine blk_drew ?_ | refine blk_alloc ?_ _)); refine blk_far ?_ NBL_O.out _; (with_reducible repeat (first | refine blk_drewN ?_ _ | refine blk_drew ?_ | refine blk_alloc ?_ _)); refine blk_far ?_ NBL_O.out _; (with_reducible repeat (first | refine blk_drewN ?_ _ | refine blk_drew ?_ | refine blk_alloc ?_ _)); refine blk_far ?_ NBL_O.out _; (with_reducible repeat (first | refine blk_drewN ?_ _ | refine blk_drew ?_ | refine blk_alloc ?_ _)); exact BKL.out⟩, ⟨by (with_reducible repeat (first | refine blk_drewN ?_ _ | refine blk_drew ?_ | refine blk_alloc ?_ _)); refine blk_far ?_ NBT_O.out _; (with_reducible repeat (first | refine blk_drewN ?_ _ | refine blk_drew ?_ | refine blk_alloc ?_ _)); refine blk_far ?_ NBT_O.out _; (with_reducible repeat (first | refine blk_drewN ?_ _ | refine blk_drew ?_ | refine blk_alloc ?_ _)); refine blk_far ?_ NBT_O.out _; (with_reducible repeat (first | refine blk_drewN ?_ _ | refine blk_drew ?_ | refine blk_alloc ?_ _)); exact BKT.out⟩, ⟨by (with_reducible repeat (first | refine blk_drewN ?_ _ | refine blk_drew ?_ | refine blk_alloc ?_ _)); refine blk_far ?_ NBF_O.out _; (with_reducible repeat (first | refine blk_drewN ?_ _ | refine blk_drew ?_ | refine blk_alloc ?_ _)); refine blk_far ?_ NBF_O.out _; (with_reducible repeat (first | refine blk_drewN ?_ _ | refine blk_drew ?_ | refine blk_alloc ?_ _)); refine blk_far ?_ NBF_O.out _; (with_reducible repeat (first | refine blk_drewN ?_ _ | refine blk_drew ?_ | refine blk_alloc ?_ _)); exact BKF.out⟩, ⟨by (with_reducible repeat (first | refine blk_drewN ?_ _ | refine blk_drew ?_ | refine blk_alloc ?_ _)); refine blk_far ?_ NBM_O.out _; (with_reducible repeat (first | refine blk_drewN ?_ _ | refine blk_drew ?_ | refine blk_alloc ?_ _)); refine blk_far ?_ NBM_O.out _; (with_reducible repeat (first | refine blk_drewN ?_ _ | refine blk_drew ?_ | refine blk_alloc ?_ _)); refine blk_far ?_ NBM_O.out _; (with_reducible repeat (first | refine blk_drewN ?_ _ | refine blk_drew ?_ | refine blk_alloc ?_ _)); exact BKM.out⟩, ⟨Kd.R_mono (Kd.R_far (Kd.R_far (Kd.R_far (Kd.R_types HO.out BKO.out (by decide)) (fun _ hk => hk.2) _) (fun _ hk => hk.2) _) (fun _ hk => hk.2) _) (fun _ hk => trivial)⟩, ⟨Kd.R_mono (Kd.R_far (Kd.R_far (Kd.R_far HP.out (fun _ hk => hk.2) _) (fun _ hk => hk.2) _) (fun _ hk => hk.2) _) (fun _ hk => hk.1)⟩, ⟨by repeat (first | (with_reducible first | exact HB.out | apply below_alloc | apply pw_below_drewN | apply below_drew1 | refine below_set ?_ GEA.out | refine below_set ?_ GEG.out | refine below_set ?_ GEO.out) | exact HB.out)⟩, GEO, NBO_A, NBO_G, NBO_L, NBO_T, NBO_F, NBO_M, NBA_O, NBG_O, NBL_O, NBT_O, NBF_O, NBM_O⟩
       case rest =>
        clear HO HP HB hx0 hx1 hx2 BKA BKG BKL BKT BKF BKM
        obtain ⟨gbO, rfl, BKO, BKA, BKG, BKL, BKT, BKF, BKM, HO, HP, HB, GEO, NBO_A, NBO_G, NBO_L, NBO_T, NBO_F, NBO_M, NBA_O, NBG_O, NBL_O, NBT_O, NBF_O, NBM_O⟩ := hcut
        have H := HH.out
        clear HH
        clear p1 q1 c4b0
        by_cases c19 : (!(x == ((rd_T23 pl j).f0)) || (!(y == ((rd_T23 pl j).f1)) || (!(z == ((rd_T23 pl j).f2))))) = true
        · rw [if_pos c19] at H
          have c19b : (!(x == ((rd_T23 pl j).f0)) || (!(y == ((rd_T23 pl j).f1)) || (!(z == ((rd_T23 pl j).f2))))) = true := c19
          clear c19
          by_cases c21 : 0 ≤ i
          · rw [if_pos c21] at H
            by_cases c22 : i < (l.length : Int)
            · rw [if_pos c22] at H
              by_cases c23 : ol.length < 1954687338268
              · rw [if_pos c23] at H
                have LM := Aside0.mk c23
                clear c23
                have H' := Aside0.mk H
                clear H
                obtain ⟨adl, e2, hl0, hl1, hl2, hl3, hl4, hl5, hl6⟩ := at_T27 HR1.out i c21 c22
                cases e2
                replace hl6 := (HB.out.cell (World.block_lt_of_cell? w _ hl6)).trans hl6
                have HL6 := Aside0.mk hl6
                clear hl0 hl1 hl2 hl3 hl4 hl5 hl6
                replace c21 := eq_true c21
                replace c22 := eq_true c22
                obtain ⟨Av, cv, ev⟩ := Kd.R_slice HO.out
                subst ev
                obtain ⟨hnA0, hnA1, hnA2⟩ := cells3 BKA.out
                have hfzn_A_0 := blk_frozen BKA.out 0
                have hfzn_A_1 := blk_frozen BKA.out 1
                have hfzn_A_2 := blk_frozen BKA.out 2
                obtain ⟨hnO0, hnO1, hnO2⟩ := cells3 BKO.out
                have hfzn_O_0 := blk_frozen BKO.out 0
                have hfzn_O_1 := blk_frozen BKO.out 1
                have hfzn_O_2 := blk_frozen BKO.out 2
                go_wp2
                have n0_ := Aside0.mk (blk_drew BKA.out)
                have n1_ := Aside0.mk (blk_drew BKG.out)
                have n2_ := Aside0.mk (blk_drew BKL.out)
                have n3_ := Aside0.mk (blk_drew BKT.out)
                have n4_ := Aside0.mk (blk_drew BKF.out)
                have n5_ := Aside0.mk (blk_drew BKM.out)
                have n6_ := Aside0.mk (blk_drew BKO.out)
                have n7_ := Aside0.mk (Kd.R_drew HO.out)
                have n8_ := Aside0.mk (Kd.R_drew HP.out)
                have n9_ := Aside0.mk (below_drew1 HB.out)
                have n10_ : Aside0 (wc.drew.cell? _ = _) := Aside0.mk HL6.out
                clear BKA BKG BKL BKT BKF BKM BKO HO HP HB HL6
                have BKA := n0_
                have BKG := n1_
                have BKL := n2_
                have BKT := n3_
                have BKF := n4_
                have BKM := n5_
                have BKO := n6_
                have HO := n7_
                have HP := n8_
                have HB := n9_
                have HL6 := n10_
                clear n0_ n1_ n2_ n3_ n4_ n5_ n6_ n7_ n8_ n9_ n10_
                try clear hnA0 hnA1 hnA2
                try clear hnO0 hnO1 hnO2
                refine start_ (n := 14) (S := fun w' => w'.cell? ⟨gbG, 0, none⟩ = some (.slice Av ol.length cv) ∧ w'.cell? ⟨gbA, 0, none⟩ = some (.int .i64 x) ∧ w'.cell? ⟨gbA, 1, none⟩ = some (.int .i64 y) ∧ w'.cell? ⟨gbA, 2, none⟩ = some (.int .i64 z) ∧ w'.cell? ⟨gbO, 0, none⟩ = some (.int .i64 ((rd_T23 pl j).f0)) ∧ w'.cell? ⟨gbO, 1, none⟩ = some (.int .i64 ((rd_T23 pl j).f1)) ∧ w'.cell? ⟨gbO, 2, none⟩ = some (.int .i64 ((rd_T23 pl j).f2)) ∧ w'.cell? ⟨gbL, 0, none⟩ = some (.slice (some adl) l.length cl) ∧ w'.cell? ⟨gbT, 0, none⟩ = some (.int .i64 tool) ∧ w'.cell? ⟨(adl.add ((i).toNat * 7)).block, (adl.add ((i).toNat * 7)).off + 6, none⟩ = some (.int .i64 ((rd_T27 l i).f3))) (ds := [12, 13]) #[false, false, false, false, false, false, false, false, false, false, false, false, false, false] (by kernel_rfl) rfl rfl ⟨(blk_cell BKG.out 0).trans rfl, (blk_cell BKA.out 0).trans rfl, (blk_cell BKA.out 1).trans rfl, (blk_cell BKA.out 2).trans rfl, (blk_cell BKO.out 0).trans rfl, (blk_cell BKO.out 1).trans rfl, (blk_cell BKO.out 2).trans rfl, (blk_cell BKL.out 0).trans rfl, (blk_cell BKT.out 0).trans rfl, HL6.out⟩ (fun hHeld => ?_)
                refine with_tabW interpolate_Motions_1.tab4 interpolate_Motions_1.bits4 (fun HT_ HW_ => ?_)
                generalize wc.drew = w8 at BKA BKG BKL BKT BKF BKM BKO HO HP HB HL6 hHeld ⊢
                refine pure_ (i := 4) (N := some 23) (v := ?_) (a' := ?_) #[false, false, false, false, true, false, false, false, false, false, false, false, false, false] rfl rfl (any_of HT_.out (by kernel_rfl)) (fun _ _ _ h => h) (Or.inl ⟨by rfl, ?_⟩) ?_ ?_
                rotate_left
                · intro w'
                  go_simp
                  with_reducible rfl
                rotate_left
                · simp only [Act.put, List.setIfInBounds_toArray, List.set_cons_zero, List.set_cons_succ, i64_w, i32_w]
                  rfl
                refine pure_ (i := 9) (N := some 28) (v := ?_) (a' := ?_) #[false, false, false, false, true, false, false, false, false, true, false, false, false, false] rfl rfl (any_of HT_.out (by kernel_rfl)) (fun _ _ _ h => h) (Or.inl ⟨by rfl, ?_⟩) ?_ ?_
                rotate_left
                · intro w'
                  go_simp
                  with_reducible rfl
                rotate_left
                · simp only [Act.put, List.setIfInBounds_toArray, List.set_cons_zero, List.set_cons_succ, i64_w, i32_w]
                  rfl
                refine take_ (i := 0) (N := some 19) (v := ?_) (a' := ?_) #[true, false, false, false, true, false, false, false, false, true, false, false, false, false] rfl rfl (take_ofW HT_.out HW_.out (by kernel_rfl)) (fun _ _ _ h => h) (Or.inl ⟨by rfl, ?_⟩) hHeld ?_ ?_
                rotate_left
                · rintro w' ⟨s0, s1, s2, s3, s4, s5, s6, s7, s8, s9⟩
                  go_simp
                  with_reducible rfl
                rotate_left
                · simp only [Act.put, List.setIfInBounds_toArray, List.set_cons_zero, List.set_cons_succ, i64_w, i32_w]
                  rfl
                refine take_ (i := 1) (N := some 20) (v := ?_) (a' := ?_) #[true, true, false, false, true, false, false, false, false, true, false, false, false, false] rfl rfl (take_ofW HT_.out HW_.out (by kernel_rfl)) (fun _ _ _ h => h) (Or.inl ⟨by rfl, ?_⟩) hHeld ?_ ?_
                rotate_left
                · rintro w' ⟨s0, s1, s2, s3, s4, s5, s6, s7, s8, s9⟩
                  go_simp
                  with_reducible rfl
                rotate_left
                · simp only [Act.put, List.setIfInBounds_toArray, List.set_cons_zero, List.set_cons_succ, i64_w, i32_w]
                  rfl
                refine take_ (i := 2) (N := some 21) (v := ?_) (a' := ?_) #[true, true, true, false, true, false, false, false, false, true, false, false, false, false] rfl rfl (take_ofW HT_.out HW_.out (by kernel_rfl)) (fun _ _ _ h => h) (Or.inl ⟨by rfl, ?_⟩) hHeld ?_ ?_
                rotate_left
                · rintro w' ⟨s0, s1, s2, s3, s4, s5, s6, s7, s8, s9⟩
                  go_simp
                  with_reducible rfl
                rotate_left
                · simp only [Act.put, List.setIfInBounds_toArray, List.set_cons_zero, List.set_cons_succ, i64_w, i32_w]
                  rfl
                refine take_ (i := 3) (N := some 22) (v := ?_) (a' := ?_) #[true, true, true, true, true, false, false, false, false, true, false, false, false, false] rfl rfl (take_ofW HT_.out HW_.out (by kernel_rfl)) (fun _ _ _ h => h) (Or.inl ⟨by rfl, ?_⟩) hHeld ?_ ?_
                rotate_left
                · rintro w' ⟨s0, s1, s2, s3, s4, s5, s6, s7, s8, s9⟩
                  go_simp
                  with_reducible rfl
                rotate_left
                · simp only [Act.put, List.setIfInBounds_toArray, List.set_cons_zero, List.set_cons_succ, i64_w, i32_w]
                  rfl
                refine pure_ (i := 5) (N := some 24) (v := ?_) (a' := ?_) #[true, true, true, true, true, true, false, false, false, true, false, false, false, false] rfl rfl (any_of HT_.out (by kernel_rfl)) (fun _ _ _ h => h) (Or.inl ⟨by rfl, ?_⟩) ?_ ?_
                rotate_left
                · intro w'
                  go_simp
                  with_reducible rfl
                rotate_left
                · simp only [Act.put, List.setIfInBounds_toArray, List.set_cons_zero, List.set_cons_succ, i64_w, i32_w]
                  rfl
                refine pure_ (i := 6) (N := some 25) (v := ?_) (a' := ?_) #[true, true, true, true, true, true, true, false, false, true, false, false, false, false] rfl rfl (any_of HT_.out (by kernel_rfl)) (fun _ _ _ h => h) (Or.inl ⟨by rfl, ?_⟩) ?_ ?_
                rotate_left
                · intro w'
                  go_simp
                  with_reducible rfl
                rotate_left
                · simp only [Act.put, List.setIfInBounds_toArray, List.set_cons_zero, List.set_cons_succ, i64_w, i32_w]
                  rfl
                refine take_ (i := 7) (N := some 26) (v := ?_) (a' := ?_) #[true, true, true, true, true, true, true, true, false, true, false, false, false, false] rfl rfl (take_ofW HT_.out HW_.out (by kernel_rfl)) (fun _ _ _ h => h) (Or.inl ⟨by rfl, ?_⟩) hHeld ?_ ?_
                rotate_left
                · rintro w' ⟨s0, s1, s2, s3, s4, s5, s6, s7, s8, s9⟩
                  go_simp
                  with_reducible rfl
                rotate_left
                · simp only [Act.put, List.setIfInBounds_toArray, List.set_cons_zero, List.set_cons_succ, i64_w, i32_w]
                  rfl
                refine take_ (i := 8) (N := some 27) (v := ?_) (a' := ?_) #[true, true, true, true, true, true, true, true, true, true, false, false, false, false] rfl rfl (take_ofW HT_.out HW_.out (by kernel_rfl)) (fun _ _ _ h => h) (Or.inl ⟨by rfl, ?_⟩) hHeld ?_ ?_
                rotate_left
                · rintro w' ⟨s0, s1, s2, s3, s4, s5, s6, s7, s8, s9⟩
                  go_simp
                  with_reducible rfl
                rotate_left
                · simp only [Act.put, List.setIfInBounds_toArray, List.set_cons_zero, List.set_cons_succ, i64_w, i32_w]
                  rfl
                refine pure_ (i := 10) (N := some 29) (v := ?_) (a' := ?_) #[true, true, true, true, true, true, true, true, true, true, true, false, false, false] rfl rfl (any_of HT_.out (by kernel_rfl)) (fun _ _ _ h => h) (Or.inl ⟨by rfl, ?_⟩) ?_ ?_
                rotate_left
                · intro w'
                  go_simp
                  with_reducible rfl
                rotate_left
                · simp only [Act.put, List.setIfInBounds_toArray, List.set_cons_zero, List.set_cons_succ, i64_w, i32_w]
                  rfl
                refine one_ (i := 11) (N := some 30) #[true, true, true, true, true, true, true, true, true, true, true, true, false, false] rfl rfl (one_of HT_.out (by kernel_rfl)) (by decide) (fun K hK => ?_)
                refine value_ (w1 := ?_) (v := ?_) (by rfl) rfl ?_ ?_
                rotate_left 2
                · go_simp
                  constructor
                  · rfl
                  · rfl
                refine hK.out _ _ ⟨(blk_cell (blk_alloc BKG.out _) 0).trans rfl, (blk_cell (blk_alloc BKA.out _) 0).trans rfl, (blk_cell (blk_alloc BKA.out _) 1).trans rfl, (blk_cell (blk_alloc BKA.out _) 2).trans rfl, (blk_cell (blk_alloc BKO.out _) 0).trans rfl, (blk_cell (blk_alloc BKO.out _) 1).trans rfl, (blk_cell (blk_alloc BKO.out _) 2).trans rfl, (blk_cell (blk_alloc BKL.out _) 0).trans rfl, (blk_cell (blk_alloc BKT.out _) 0).trans rfl, (World.cell?_alloc_lt _ _ _ (World.block_lt_of_cell? _ _ HL6.out)).trans HL6.out⟩ (fun hHeld => ?_)
                clear hK K
                refine norm_ (a' := ?_) ?_ ?_
                rotate_left
                · show Act.put _ (some 30) _ = _
                  simp only [Act.put, List.setIfInBounds_toArray, List.set_cons_zero, List.set_cons_succ, i64_w, i32_w]
                  rfl
                refine last_ (i := 12) (N := some 31) #[true, true, true, true, true, true, true, true, true, true, true, true, true, false] rfl rfl (one_of HT_.out (by kernel_rfl)) (by decide) (fun K hK => ?_)
                refine Kd.R_append_step k51 (w0 := w) w.heap.size (by rfl) (.tmp 19) (.tmp 30) 47 51 (.agg #[(.int .i64 0), (.int .i64 0), (.int .i64 0), (.int .i64 0), (.int .i64 0), (.int .i64 0), (.int .i64 0), (.int .i64 0), (.int .i64 0)]) 72 rfl Try.underlying47 info51 rfl (by decide) (by omega) (.slice Av ol.length cv) ol (⟨(⟨x, y, z⟩ : S23), (⟨((rd_T23 pl j).f0), ((rd_T23 pl j).f1), ((rd_T23 pl j).f2)⟩ : S23), ((rd_T27 l i).f3), tool, i⟩ : S51) [.int .i64 x, .int .i64 y, .int .i64 z, .int .i64 ((rd_T23 pl j).f0), .int .i64 ((rd_T23 pl j).f1), .int .i64 ((rd_T23 pl j).f2), .int .i64 ((rd_T27 l i).f3), .int .i64 tool, .int .i64 i] (fun _ => True) (fun _ => False) rfl rfl ?aP (fun _ hk => hk.elim) ?aF ?aO ?aB ?aS ?aL ?_
                (case aP => exact k51_mkM _ _ _ (⟨(⟨x, y, z⟩ : S23), (⟨((rd_T23 pl j).f0), ((rd_T23 pl j).f1), ((rd_T23 pl j).f2)⟩ : S23), ((rd_T27 l i).f3), tool, i⟩ : S51))
                (case aB => exact HB.out)
                (case aF => exact (fun _ _ => trivial))
                (case aO => exact HO.out)
                (case aS => exact (below_size HB.out))
                (case aL => have := LM.out; omega)
                intro v9 w9 ho hb hg hat
                have n0_ := Aside0.mk (blk_grown BKA.out hg (Kd.R_ne HO.out BKA.out (by decide)))
                have n1_ := Aside0.mk (blk_grown BKG.out hg (Kd.R_ne HO.out BKG.out (by decide)))
                have n2_ := Aside0.mk (blk_grown BKL.out hg (Kd.R_ne HO.out BKL.out (by decide)))
                have n3_ := Aside0.mk (blk_grown BKT.out hg (Kd.R_ne HO.out BKT.out (by decide)))
                have n4_ := Aside0.mk (blk_grown BKF.out hg (Kd.R_ne HO.out BKF.out (by decide)))
                have n5_ := Aside0.mk (blk_grown BKM.out hg (Kd.R_ne HO.out BKM.out (by decide)))
                have n6_ := Aside0.mk (blk_grown BKO.out hg (Kd.R_ne HO.out BKO.out (by decide)))
                have n7_ := Aside0.mk (Kd.R_over' HP.out (Kd.R_typed HO.out) (by decide) hg)
                have n8_ := Aside0.mk (hb)
                have n9_ := Aside0.mk (ho)
                clear BKA BKG BKL BKT BKF BKM BKO HP HB HO
                have BKA := n0_
                have BKG := n1_
                have BKL := n2_
                have BKT := n3_
                have BKF := n4_
                have BKM := n5_
                have BKO := n6_
                have HP := n7_
                have HB := n8_
                have HO := n9_
                clear n0_ n1_ n2_ n3_ n4_ n5_ n6_ n7_ n8_ n9_ ho hb hg hat
                obtain ⟨A9, c9, e9⟩ := Kd.R_slice HO.out
                subst e9
                have hcG := (blk_cell BKG.out 0).trans rfl
                replace hcG : w9.cell? ⟨gbG, 0, none⟩ = some (.slice Av ol.length cv) := hcG
                have hfG := blk_frozen BKG.out 0
                refine hK.out _ _ ?_
                clear hK K
                refine norm_ (a' := ?_) ?_ ?_
                rotate_left
                · show Act.put _ (some 31) _ = _
                  simp only [Act.put, List.setIfInBounds_toArray, List.set_cons_zero, List.set_cons_succ, i64_w, i32_w]
                  rfl
                refine last_ (i := 13) (N := none) #[true, true, true, true, true, true, true, true, true, true, true, true, true, true] rfl rfl (one_of HT_.out (by kernel_rfl)) (by decide) (fun K hK => ?_)
                refine skip_ (w1 := ?_) (by rfl) rfl ?_ ?_
                rotate_left
                · go_simp
                  rfl
                refine hK.out _ _ ?_
                clear hK K
                refine done_ (done_of HT_.out (by kernel_rfl)) ?_
                try clear HT_ HW_
                clear hcG hfG
                have O9 := HO.out
                simp only [List.length_append, List.length_cons, List.length_nil, Nat.zero_add] at O9
                generalize hq9 : World.setCell w9 _ _ = wf
                have NBO_G := NBO_G
                have n0_ : Aside0 (wf.heap[gbA]? = some (.cells #[.int .i64 x, .int .i64 y, .int .i64 z] 23 (0, 0))) := ⟨by rw [← hq9]; exact blk_far BKA.out NBA_G.out _⟩
                have n1_ : Aside0 (wf.heap[gbG]? = some (.cells #[.slice A9 (ol.length + 1) c9] 47 (0, 0))) := ⟨by rw [← hq9]; exact blk_put BKG.out 0 _ rfl⟩
                have n2_ : Aside0 (wf.heap[gbL]? = some (.cells #[.slice (some adl) l.length cl] 37 (0, 0))) := ⟨by rw [← hq9]; exact blk_far BKL.out NBL_G.out _⟩
                have n3_ : Aside0 (wf.heap[gbT]? = some (.cells #[.int .i64 tool] 3 (0, 0))) := ⟨by rw [← hq9]; exact blk_far BKT.out NBT_G.out _⟩
                have n4_ : Aside0 (wf.heap[gbF]? = some (.cells cF 23 (0, 0))) := ⟨by rw [← hq9]; exact blk_far BKF.out NBF_G.out _⟩
                have n5_ : Aside0 (wf.heap[gbM]? = some (.cells cM 27 (0, 0))) := ⟨by rw [← hq9]; exact blk_far BKM.out NBM_G.out _⟩
                have n6_ : Aside0 (wf.heap[gbO]? = some (.cells #[.int .i64 ((rd_T23 pl j).f0), .int .i64 ((rd_T23 pl j).f1), .int .i64 ((rd_T23 pl j).f2)] 23 (0, 0))) := ⟨by rw [← hq9]; exact blk_far BKO.out NBO_G.out _⟩
                have n7_ : Aside0 (Kd.R k51 51 wf w.heap.size (fun _ => True) (.slice A9 (ol.length + 1) c9) (ol ++ [(⟨(⟨x, y, z⟩ : S23), (⟨((rd_T23 pl j).f0), ((rd_T23 pl j).f1), ((rd_T23 pl j).f2)⟩ : S23), ((rd_T27 l i).f3), tool, i⟩ : S51)])) := ⟨by rw [← hq9]; exact Kd.R_mono (Kd.R_far (Kd.R_types O9 BKG.out (by decide)) (fun _ hk => hk.2) _) (fun _ _ => trivial)⟩
                have n8_ : Aside0 (Kd.R k23 23 wf w.heap.size (fun k_ => k_ ≠ gbA) (.slice (some adp) pl.length cp) pl) := ⟨by rw [← hq9]; exact Kd.R_mono (Kd.R_far (Kd.R_types HP.out BKG.out (by decide)) (fun _ hk => hk.2) _) (fun _ hk => hk.1)⟩
                have n9_ : Aside0 (Below w.heap.size w wf) := ⟨by rw [← hq9]; exact below_set HB.out GEG.out⟩
                clear O9 hq9 HL6 BKA BKG BKL BKT BKF BKM BKO HO HP HB
                have BKA := n0_
                have BKG := n1_
                have BKL := n2_
                have BKT := n3_
                have BKF := n4_
                have BKM := n5_
                have BKO := n6_
                have HO := n7_
                have HP := n8_
                have HB := n9_
                clear n0_ n1_ n2_ n3_ n4_ n5_ n6_ n7_ n8_ n9_
                obtain ⟨hoA0, hoA1, hoA2⟩ := cells3 BKA.out
                have hfzo_A_0 := blk_frozen BKA.out 0
                have hfzo_A_1 := blk_frozen BKA.out 1
                have hfzo_A_2 := blk_frozen BKA.out 2
                obtain ⟨hoO0, hoO1, hoO2⟩ := cells3 BKO.out
                have hfzo_O_0 := blk_frozen BKO.out 0
                have hfzo_O_1 := blk_frozen BKO.out 1
                have hfzo_O_2 := blk_frozen BKO.out 2
                have hnbO_A := NBO_A.out
                have hnbA_O := NBA_O.out
                go_wp2
                go_roundg k1
                case measure => have := HK1.out; omega
                case rel => exact ⟨(wrap64 (j + 1)), ((rd_T23 pl j).f0), ((rd_T23 pl j).f1), ((rd_T23 pl j).f2), (ol ++ [(⟨(⟨x, y, z⟩ : S23), (⟨((rd_T23 pl j).f0), ((rd_T23 pl j).f1), ((rd_T23 pl j).f2)⟩ : S23), ((rd_T27 l i).f3), tool, i⟩ : S51)]), (.slice A9 (ol.length + 1) c9), (by first | rfl | (simp; done)), H', ⟨by have := HK1.out; omega⟩, ⟨by (with_reducible repeat (first | refine blk_drewN ?_ _ | refine blk_drew ?_ | refine blk_alloc ?_ _)); refine blk_put (cs := #[.int .i64 ((rd_T23 pl j).f0), .int .i64 ((rd_T23 pl j).f1), .int .i64 z]) ?_ 2 _ rfl; (with_reducible repeat (first | refine blk_drewN ?_ _ | refine blk_drew ?_ | refine blk_alloc ?_ _)); refine blk_put (cs := #[.int .i64 ((rd_T23 pl j).f0), .int .i64 y, .int .i64 z]) ?_ 1 _ rfl; (with_reducible repeat (first | refine blk_drewN ?_ _ | refine blk_drew ?_ | refine blk_alloc ?_ _)); refine blk_put (cs := #[.int .i64 x, .int .i64 y, .int .i64 z]) ?_ 0 _ rfl; (with_reducible repeat (first | refine blk_drewN ?_ _ | refine blk_drew ?_ | refine blk_alloc ?_ _)); exact BKA.out⟩, ⟨by (with_reducible repeat (first | refine blk_drewN ?_ _ | refine blk_drew ?_ | refine blk_alloc ?_ _)); refine blk_far ?_ NBG_A.out _; (with_reducible repeat (first | refine blk_drewN ?_ _ | refine blk_drew ?_ | refine blk_alloc ?_ _)); refine blk_far ?_ NBG_A.out _; (with_reducible repeat (first | refine blk_drewN ?_ _ | refine blk_drew ?_ | refine blk_alloc ?_ _)); refine blk_far ?_ NBG_A.out _; (with_reducible repeat (first | refine blk_drewN ?_ _ | refine blk_drew ?_ | refine blk_alloc ?_ _)); exact BKG.out⟩, ⟨by (with_reducible repeat (first | refine blk_drewN ?_ _ | refine blk_drew ?_ | refine blk_alloc ?_ _)); refine blk_far ?_ NBL_A.out _; (with_reducible repeat (first | refine blk_drewN ?_ _ | refine blk_drew ?_ | refine blk_alloc ?_ _)); refine blk_far ?_ NBL_A.out _; (with_reducible repeat (first | refine blk_drewN ?_ _ | refine blk_drew ?_ | refine blk_alloc ?_ _)); refine blk_far ?_ NBL_A.out _; (with_reducible repeat (first | refine blk_drewN ?_ _ | refine blk_drew ?_ | refine blk_alloc ?_ _)); exact BKL.out⟩, ⟨by (with_reducible repeat (first | refine blk_drewN ?_ _ | refine blk_drew ?_ | refine blk_alloc ?_ _)); refine blk_far ?_ NBT_A.out _; (with_reducible repeat (first | refine blk_drewN ?_ _ | refine blk_drew ?_ | refine blk_alloc ?_ _)); refine blk_far ?_ NBT_A.out _; (with_reducible repeat (first | refine blk_drewN ?_ _ | refine blk_drew ?_ | refine blk_alloc ?_ _)); refine blk_far ?_ NBT_A.out _; (with_reducible repeat (first | refine blk_drewN ?_ _ | refine blk_drew ?_ | refine blk_alloc ?_ _)); exact BKT.out⟩, ⟨by (with_reducible repeat (first | refine blk_drewN ?_ _ | refine blk_drew ?_ | refine blk_alloc ?_ _)); refine blk_far ?_ NBF_A.out _; (with_reducible repeat (first | refine blk_drewN ?_ _ | refine blk_drew ?_ | refine blk_alloc ?_ _)); refine blk_far ?_ NBF_A.out _; (with_reducible repeat (first | refine blk_drewN ?_ _ | refine blk_drew ?_ | refine blk_alloc ?_ _)); refine blk_far ?_ NBF_A.out _; (with_reducible repeat (first | refine blk_drewN ?_ _ | refine blk_drew ?_ | refine blk_alloc ?_ _)); exact BKF.out⟩, ⟨by (with_reducible repeat (first | refine blk_drewN ?_ _ | refine blk_drew ?_ | refine blk_alloc ?_ _)); refine blk_far ?_ NBM_A.out _; (with_reducible repeat (first | refine blk_drewN ?_ _ | refine blk_drew ?_ | refine blk_alloc ?_ _)); refine blk_far ?_ NBM_A.out _; (with_reducible repeat (first | refine blk_drewN ?_ _ | refine blk_drew ?_ | refine blk_alloc ?_ _)); refine blk_far ?_ NBM_A.out _; (with_reducible repeat (first | refine blk_drewN ?_ _ | refine blk_drew ?_ | refine blk_alloc ?_ _)); exact BKM.out⟩, ⟨Kd.R_mono (Kd.R_far (Kd.R_far (Kd.R_far (Kd.R_types HO.out BKA.out (by decide)) (fun _ hk => hk.2) _) (fun _ hk => hk.2) _) (fun _ hk => hk.2) _) (fun _ hk => trivial)⟩, ⟨(Kd.R_far (Kd.R_far (Kd.R_far HP.out (fun _ hk => hk) _) (fun _ hk => hk) _) (fun _ hk => hk) _)⟩, ⟨by repeat (first | (with_reducible first | exact HB.out | apply below_alloc | apply pw_below_drewN | apply below_drew1 | refine below_set ?_ GEA.out | refine below_set ?_ GEG.out | refine below_set ?_ GEO.out) | exact HB.out)⟩⟩
              · rw [if_neg c23] at H
                cases H
            · rw [if_neg c22] at H
              cases H
          · rw [if_neg c21] at H
            cases H
        · rw [if_neg c19] at H
          have c19b : (!(x == ((rd_T23 pl j).f0)) || (!(y == ((rd_T23 pl j).f1)) || (!(z == ((rd_T23 pl j).f2))))) = false := by simpa using c19
          clear c19
          have H' := Aside0.mk H
          clear H
          obtain ⟨hnA0, hnA1, hnA2⟩ := cells3 BKA.out
          have hfzn_A_0 := blk_frozen BKA.out 0
          have hfzn_A_1 := blk_frozen BKA.out 1
          have hfzn_A_2 := blk_frozen BKA.out 2
          obtain ⟨hnO0, hnO1, hnO2⟩ := cells3 BKO.out
          have hfzn_O_0 := blk_frozen BKO.out 0
          have hfzn_O_1 := blk_frozen BKO.out 1
          have hfzn_O_2 := blk_frozen BKO.out 2
          have hnbO_A := NBO_A.out
          have hnbA_O := NBA_O.out
          go_wp2
          go_roundg k1
          case measure => have := HK1.out; omega
          case rel => exact ⟨(wrap64 (j + 1)), ((rd_T23 pl j).f0), ((rd_T23 pl j).f1), ((rd_T23 pl j).f2), ol, v, (by first | rfl | (simp; done)), H', ⟨by have := HK1.out; omega⟩, ⟨by (with_reducible repeat (first | refine blk_drewN ?_ _ | refine blk_drew ?_ | refine blk_alloc ?_ _)); refine blk_put (cs := #[.int .i64 ((rd_T23 pl j).f0), .int .i64 ((rd_T23 pl j).f1), .int .i64 z]) ?_ 2 _ rfl; (with_reducible repeat (first | refine blk_drewN ?_ _ | refine blk_drew ?_ | refine blk_alloc ?_ _)); refine blk_put (cs := #[.int .i64 ((rd_T23 pl j).f0), .int .i64 y, .int .i64 z]) ?_ 1 _ rfl; (with_reducible repeat (first | refine blk_drewN ?_ _ | refine blk_drew ?_ | refine blk_alloc ?_ _)); refine blk_put (cs := #[.int .i64 x, .int .i64 y, .int .i64 z]) ?_ 0 _ rfl; (with_reducible repeat (first | refine blk_drewN ?_ _ | refine blk_drew ?_ | refine blk_alloc ?_ _)); exact BKA.out⟩, ⟨by (with_reducible repeat (first | refine blk_drewN ?_ _ | refine blk_drew ?_ | refine blk_alloc ?_ _)); refine blk_far ?_ NBG_A.out _; (with_reducible repeat (first | refine blk_drewN ?_ _ | refine blk_drew ?_ | refine blk_alloc ?_ _)); refine blk_far ?_ NBG_A.out _; (with_reducible repeat (first | refine blk_drewN ?_ _ | refine blk_drew ?_ | refine blk_alloc ?_ _)); refine blk_far ?_ NBG_A.out _; (with_reducible repeat (first | refine blk_drewN ?_ _ | refine blk_drew ?_ | refine blk_alloc ?_ _)); exact BKG.out⟩, ⟨by (with_reducible repeat (first | refine blk_drewN ?_ _ | refine blk_drew ?_ | refine blk_alloc ?_ _)); refine blk_far ?_ NBL_A.out _; (with_reducible repeat (first | refine blk_drewN ?_ _ | refine blk_drew ?_ | refine blk_alloc ?_ _)); refine blk_far ?_ NBL_A.out _; (with_reducible repeat (first | refine blk_drewN ?_ _ | refine blk_drew ?_ | refine blk_alloc ?_ _)); refine blk_far ?_ NBL_A.out _; (with_reducible repeat (first | refine blk_drewN ?_ _ | refine blk_drew ?_ | refine blk_alloc ?_ _)); exact BKL.out⟩, ⟨by (with_reducible repeat (first | refine blk_drewN ?_ _ | refine blk_drew ?_ | refine blk_alloc ?_ _)); refine blk_far ?_ NBT_A.out _; (with_reducible repeat (first | refine blk_drewN ?_ _ | refine blk_drew ?_ | refine blk_alloc ?_ _)); refine blk_far ?_ NBT_A.out _; (with_reducible repeat (first | refine blk_drewN ?_ _ | refine blk_drew ?_ | refine blk_alloc ?_ _)); refine blk_far ?_ NBT_A.out _; (with_reducible repeat (first | refine blk_drewN ?_ _ | refine blk_drew ?_ | refine blk_alloc ?_ _)); exact BKT.out⟩, ⟨by (with_reducible repeat (first | refine blk_drewN ?_ _ | refine blk_drew ?_ | refine blk_alloc ?_ _)); refine blk_far ?_ NBF_A.out _; (with_reducible repeat (first | refine blk_drewN ?_ _ | refine blk_drew ?_ | refine blk_alloc ?_ _)); refine blk_far ?_ NBF_A.out _; (with_reducible repeat (first | refine blk_drewN ?_ _ | refine blk_drew ?_ | refine blk_alloc ?_ _)); refine blk_far ?_ NBF_A.out _; (with_reducible repeat (first | refine blk_drewN ?_ _ | refine blk_drew ?_ | refine blk_alloc ?_ _)); exact BKF.out⟩, ⟨by (with_reducible repeat (first | refine blk_drewN ?_ _ | refine blk_drew ?_ | refine blk_alloc ?_ _)); refine blk_far ?_ NBM_A.out _; (with_reducible repeat (first | refine blk_drewN ?_ _ | refine blk_drew ?_ | refine blk_alloc ?_ _)); refine blk_far ?_ NBM_A.out _; (with_reducible repeat (first | refine blk_drewN ?_ _ | refine blk_drew ?_ | refine blk_alloc ?_ _)); refine blk_far ?_ NBM_A.out _; (with_reducible repeat (first | refine blk_drewN ?_ _ | refine blk_drew ?_ | refine blk_alloc ?_ _)); exact BKM.out⟩, ⟨Kd.R_mono (Kd.R_far (Kd.R_far (Kd.R_far (Kd.R_types HO.out BKA.out (by decide)) (fun _ hk => hk.2) _) (fun _ hk => hk.2) _) (fun _ hk => hk.2) _) (fun _ hk => trivial)⟩, ⟨(Kd.R_far (Kd.R_far (Kd.R_far HP.out (fun _ hk => hk) _) (fun _ hk => hk) _) (fun _ hk => hk) _)⟩, ⟨by repeat (first | (with_reducible first | exact HB.out | apply below_alloc | apply pw_below_drewN | apply below_drew1 | refine below_set ?_ GEA.out | refine below_set ?_ GEG.out | refine below_set ?_ GEO.out) | exact HB.out)⟩⟩
     · rw [if_neg c5] at H
       cases H
   · rw [if_neg c4] at H
     have c4b0 : decide (j < (pl.length : Int)) = false := decide_eq_false c4
     clear c4
     simp only [Option.some.injEq, Prod.mk.injEq] at H
     obtain ⟨rfl, rfl, rfl, rfl⟩ := H
     go_wp2
     first | go_end0 | ((try simp only [Exit.inBlock, Exit.then]); go_end0)
     exact ⟨rfl, v, BKG.out, BKA.out, BKL.out, BKT.out, BKF.out, BKM.out, HO.out, HB.out⟩
end Go.Proofs.Ytblonchpophnkaa.F
