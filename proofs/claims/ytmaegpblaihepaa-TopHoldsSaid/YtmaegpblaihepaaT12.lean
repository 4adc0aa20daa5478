/- whole, by a contract: pieces of one motion are a chain. -/
import Derived.Test.YtmaegpblaihepaaWc
import Derived.Test.YtmaegpblaihepaaCt
import Derived.Test.YtmaegpblaihepaaWr
import Derived.Test.YtmaegpblaihepaaFa
namespace Go.Proofs.Ytmaegpblaihepaa.F
open Go.RowKit Go.Proofs.YtmaegpblaihepaaW.PrintWords Go.Proofs.YtmaegpblaihepaaW.PrintLast Go.Proofs.YtmaegpblaihepaaW.PrintMore
attribute [local go_sem] max2_int min2_int max_two min_two max_three min_three max_four min_four
set_option linter.unusedVariables false
set_option linter.unusedSimpArgs false
attribute [local go_sem high] eqA42
def WholeP : Nat → List S55 → Int → List S55 → List S55 → Prop
 | 0, _, _, _, _ => False
 | k + 1, l, i, ol, res => if i < (l.length : Int) then (0 ≤ i ∧ ol.length ≤ 1000000 ∧ (if 0 < ol.length then (0 ≤ (wrap64 ((ol.length : Int) - 1)) ∧ (wrap64 ((ol.length : Int) - 1)) < (ol.length : Int) ∧ (if (rd_T55 ol (wrap64 ((ol.length : Int) - 1))).f4 = (rd_T55 l i).f4 then ((rd_T55 ol (wrap64 ((ol.length : Int) - 1))).f1.f0 = (rd_T55 l i).f0.f0 ∧ (rd_T55 ol (wrap64 ((ol.length : Int) - 1))).f1.f1 = (rd_T55 l i).f0.f1 ∧ (rd_T55 ol (wrap64 ((ol.length : Int) - 1))).f1.f2 = (rd_T55 l i).f0.f2 ∧ (rd_T55 ol (wrap64 ((ol.length : Int) - 1))).f2 = (rd_T55 l i).f2 ∧ (rd_T55 ol (wrap64 ((ol.length : Int) - 1))).f3 = (rd_T55 l i).f3 ∧ (WholeP k l (wrap64 (i + 1)) (ol.set (wrap64 ((ol.length : Int) - 1)).toNat { (rd_T55 ol (wrap64 ((ol.length : Int) - 1))) with f1 := (rd_T55 l i).f1 }) res)) else (WholeP k l (wrap64 (i + 1)) (ol ++ [(rd_T55 l i)]) res))) else (WholeP k l (wrap64 (i + 1)) (ol ++ [(rd_T55 l i)]) res))) else res = ol
set_option maxRecDepth 100000 in
set_option maxHeartbeats 8000000 in
theorem swarftop_whole.calls (k : Nat) (A : Option Addr) (c : Nat) (l res : List S55) {w : World} (hr : Kd.C k55 w A l.length l) (hc : l.length ≤ c) (h : WholeP k l 0 [] res) : Calls Try.prog 15 #[.slice A l.length c] w fun e w' => ∃ v, e = .returned v ∧ Kd.R k55 55 w' w.heap.size (fun _ => True) v res ∧ Below w.heap.size w w' := by
 have hu55 := Try.underlying55
 have hu42 := Try.underlying42
 have HR := Aside0.mk hr
 have HC := Aside0.mk hc
 have HW := Aside0.mk h
 clear hr hc h
 go_enter Try.func15, Try.ntmps15
 go_upto_block 0 with (fail)
 go_wp2_with (fail)
 go_loopg [3, 9] k (fun kq v3 v9 w' => ∃ (i : Int) (ol : List S55), v9 = .int .i64 i ∧ Aside0 (WholeP kq l i ol res) ∧ Aside0 (kq ≤ k) ∧ Aside0 (Kd.R k55 55 w' w.heap.size (fun _ => True) v3 ol) ∧ Aside0 (Below w.heap.size w w'))
 case atStart => exact ⟨0, [], rfl, HW, ⟨Nat.le_refl _⟩, ⟨Kd.R_nil _ _ _ _ _⟩, ⟨Below.refl _ _⟩⟩
 case round =>
  clear HW
  obtain ⟨i, ol, rfl, HW, HK, HO, HB⟩ := hrel
  cases gk with
  | zero => exact absurd HW.out (by simp [WholeP])
  | succ k1 =>
   have h := HW.out
   clear HW
   simp only [WholeP] at h
   by_cases c1 : i < (l.length : Int)
   · rw [if_pos c1] at h
     have c1b : decide (i < (l.length : Int)) = true := decide_eq_true c1
     obtain ⟨i0, hlen, h⟩ := h
     obtain ⟨ad, ea_, hx0, hx1, hx2, hx3, hx4, hx5, hx6, hx7, hx8⟩ := at_T55 (Kd.C_below HR.out HB.out) i i0 c1
     subst ea_
     replace i0 := eq_true i0
     replace c1 := eq_true c1
     have HL := Aside0.mk hlen
     clear hlen
     have HH := Aside0.mk h
     clear h
     obtain ⟨Ao, co, eo⟩ := Kd.R_slice HO.out
     subst eo
     go_upto_region 6 with (first | ((with_reducible refine gate_dst (N := 5) rfl ?_); refine box_event ?hg (N := 5) ?hd (cs := #[.int .i64 0, .int .i64 0, .int .i64 0, .int .i64 0, .int .i64 0, .int .i64 0, .int .i64 0, .int .i64 0, .int .i64 0]) (t := 55) ?hr ?_; (case hd => rfl); (case hg => rfl); (case hr => first | (go_simp; done) | (go_simp; rfl)); intro q hg wq hbox hb; have BKq := Aside0.mk hbox; have HBq := Aside0.mk hb; have HGq : Aside0 (wr.heap.size ≤ q) := ⟨(by rw [hg]; exact Nat.le_refl _)⟩; clear hg hbox hb; have hm0 : wq.cell? ⟨q, 0, none⟩ = some (.int .i64 0) := (blk_cell BKq.out 0).trans rfl; have hm1 : wq.cell? ⟨q, 1, none⟩ = some (.int .i64 0) := (blk_cell BKq.out 1).trans rfl; have hm2 : wq.cell? ⟨q, 2, none⟩ = some (.int .i64 0) := (blk_cell BKq.out 2).trans rfl; have hm3 : wq.cell? ⟨q, 3, none⟩ = some (.int .i64 0) := (blk_cell BKq.out 3).trans rfl; have hm4 : wq.cell? ⟨q, 4, none⟩ = some (.int .i64 0) := (blk_cell BKq.out 4).trans rfl; have hm5 : wq.cell? ⟨q, 5, none⟩ = some (.int .i64 0) := (blk_cell BKq.out 5).trans rfl; have hm6 : wq.cell? ⟨q, 6, none⟩ = some (.int .i64 0) := (blk_cell BKq.out 6).trans rfl; have hm7 : wq.cell? ⟨q, 7, none⟩ = some (.int .i64 0) := (blk_cell BKq.out 7).trans rfl; have hm8 : wq.cell? ⟨q, 8, none⟩ = some (.int .i64 0) := (blk_cell BKq.out 8).trans rfl; have hmf0 := blk_frozen BKq.out 0; have hmf1 := blk_frozen BKq.out 1; have hmf2 := blk_frozen BKq.out 2; have hmf3 := blk_frozen BKq.out 3; have hmf4 := blk_frozen BKq.out 4; have hmf5 := blk_frozen BKq.out 5; have hmf6 := blk_frozen BKq.out 6; have hmf7 := blk_frozen BKq.out 7; have hmf8 := blk_frozen BKq.out 8))
     generalize hwf : World.setCell _ _ _ = wf
     have BKP : Aside0 (wf.heap[q]? = some (.cells #[.int .i64 (rd_T55 l i).f0.f0, .int .i64 (rd_T55 l i).f0.f1, .int .i64 (rd_T55 l i).f0.f2, .int .i64 (rd_T55 l i).f1.f0, .int .i64 (rd_T55 l i).f1.f1, .int .i64 (rd_T55 l i).f1.f2, .int .i64 (rd_T55 l i).f2, .int .i64 (rd_T55 l i).f3, .int .i64 (rd_T55 l i).f4] 55 (0, 0))) := ⟨by rw [← hwf]; exact (by refine blk_put (cs := #[.int .i64 (rd_T55 l i).f0.f0, .int .i64 (rd_T55 l i).f0.f1, .int .i64 (rd_T55 l i).f0.f2, .int .i64 (rd_T55 l i).f1.f0, .int .i64 (rd_T55 l i).f1.f1, .int .i64 (rd_T55 l i).f1.f2, .int .i64 (rd_T55 l i).f2, .int .i64 (rd_T55 l i).f3, .int .i64 0]) ?_ 8 _ rfl; refine blk_put (cs := #[.int .i64 (rd_T55 l i).f0.f0, .int .i64 (rd_T55 l i).f0.f1, .int .i64 (rd_T55 l i).f0.f2, .int .i64 (rd_T55 l i).f1.f0, .int .i64 (rd_T55 l i).f1.f1, .int .i64 (rd_T55 l i).f1.f2, .int .i64 (rd_T55 l i).f2, .int .i64 0, .int .i64 0]) ?_ 7 _ rfl; refine blk_put (cs := #[.int .i64 (rd_T55 l i).f0.f0, .int .i64 (rd_T55 l i).f0.f1, .int .i64 (rd_T55 l i).f0.f2, .int .i64 (rd_T55 l i).f1.f0, .int .i64 (rd_T55 l i).f1.f1, .int .i64 (rd_T55 l i).f1.f2, .int .i64 0, .int .i64 0, .int .i64 0]) ?_ 6 _ rfl; refine blk_put (cs := #[.int .i64 (rd_T55 l i).f0.f0, .int .i64 (rd_T55 l i).f0.f1, .int .i64 (rd_T55 l i).f0.f2, .int .i64 (rd_T55 l i).f1.f0, .int .i64 (rd_T55 l i).f1.f1, .int .i64 0, .int .i64 0, .int .i64 0, .int .i64 0]) ?_ 5 _ rfl; refine blk_put (cs := #[.int .i64 (rd_T55 l i).f0.f0, .int .i64 (rd_T55 l i).f0.f1, .int .i64 (rd_T55 l i).f0.f2, .int .i64 (rd_T55 l i).f1.f0, .int .i64 0, .int .i64 0, .int .i64 0, .int .i64 0, .int .i64 0]) ?_ 4 _ rfl; refine blk_put (cs := #[.int .i64 (rd_T55 l i).f0.f0, .int .i64 (rd_T55 l i).f0.f1, .int .i64 (rd_T55 l i).f0.f2, .int .i64 0, .int .i64 0, .int .i64 0, .int .i64 0, .int .i64 0, .int .i64 0]) ?_ 3 _ rfl; refine blk_put (cs := #[.int .i64 (rd_T55 l i).f0.f0, .int .i64 (rd_T55 l i).f0.f1, .int .i64 0, .int .i64 0, .int .i64 0, .int .i64 0, .int .i64 0, .int .i64 0, .int .i64 0]) ?_ 2 _ rfl; refine blk_put (cs := #[.int .i64 (rd_T55 l i).f0.f0, .int .i64 0, .int .i64 0, .int .i64 0, .int .i64 0, .int .i64 0, .int .i64 0, .int .i64 0, .int .i64 0]) ?_ 1 _ rfl; refine blk_put (cs := #[.int .i64 0, .int .i64 0, .int .i64 0, .int .i64 0, .int .i64 0, .int .i64 0, .int .i64 0, .int .i64 0, .int .i64 0]) ?_ 0 _ rfl; exact BKq.out)⟩
     have HBf : Aside0 (Below wr.heap.size wr wf) := ⟨by rw [← hwf]; exact (((((((((HBq.out.setCell HGq.out _).setCell HGq.out _).setCell HGq.out _).setCell HGq.out _).setCell HGq.out _).setCell HGq.out _).setCell HGq.out _).setCell HGq.out _).setCell HGq.out _)⟩
     have HOf : Aside0 (Kd.R k55 55 wf w.heap.size (fun k => True ∧ k ≠ q) (.slice Ao ol.length co) ol) := ⟨Kd.R_below (Kd.R_elderB HO.out q HGq.out) HBf.out⟩
     have HBw := Aside0.mk (below_step HB.out HBf.out)
     have GEq : Aside0 (w.heap.size ≤ q) := ⟨Nat.le_trans (below_size HB.out) HGq.out⟩
     clear hwf BKq HBq HBf HO HB HGq i0 c1 hx0 hx1 hx2 hx3 hx4 hx5 hx6 hx7 hx8 hm0 hm1 hm2 hm3 hm4 hm5 hm6 hm7 hm8 hmf0 hmf1 hmf2 hmf3 hmf4 hmf5 hmf6 hmf7 hmf8
     have hm0 : wf.cell? ⟨q, 0, none⟩ = some (.int .i64 (rd_T55 l i).f0.f0) := (blk_cell BKP.out 0).trans rfl
     have hm1 : wf.cell? ⟨q, 1, none⟩ = some (.int .i64 (rd_T55 l i).f0.f1) := (blk_cell BKP.out 1).trans rfl
     have hm2 : wf.cell? ⟨q, 2, none⟩ = some (.int .i64 (rd_T55 l i).f0.f2) := (blk_cell BKP.out 2).trans rfl
     have hm3 : wf.cell? ⟨q, 3, none⟩ = some (.int .i64 (rd_T55 l i).f1.f0) := (blk_cell BKP.out 3).trans rfl
     have hm4 : wf.cell? ⟨q, 4, none⟩ = some (.int .i64 (rd_T55 l i).f1.f1) := (blk_cell BKP.out 4).trans rfl
     have hm5 : wf.cell? ⟨q, 5, none⟩ = some (.int .i64 (rd_T55 l i).f1.f2) := (blk_cell BKP.out 5).trans rfl
     have hm6 : wf.cell? ⟨q, 6, none⟩ = some (.int .i64 (rd_T55 l i).f2) := (blk_cell BKP.out 6).trans rfl
     have hm7 : wf.cell? ⟨q, 7, none⟩ = some (.int .i64 (rd_T55 l i).f3) := (blk_cell BKP.out 7).trans rfl
     have hm8 : wf.cell? ⟨q, 8, none⟩ = some (.int .i64 (rd_T55 l i).f4) := (blk_cell BKP.out 8).trans rfl
     have h := HH.out
     clear HH
     by_cases c2 : 0 < ol.length
     · rw [if_pos c2] at h
       have c2b : decide (0 < ol.length) = true := decide_eq_true c2
       have c2c : decide (0 < (ol.length : Int)) = true := decide_eq_true (by omega)
       clear c2
       obtain ⟨j0, j1, h⟩ := h
       obtain ⟨ao, ea_, ho0, ho1, ho2, ho3, ho4, ho5, ho6, ho7, ho8⟩ := at_T55 (Kd.R_reads' HOf.out).2.2 (wrap64 ((ol.length : Int) - 1)) j0 j1
       subst ea_
       have j0t := eq_true j0
       have j1t := eq_true j1
       by_cases c3 : (rd_T55 ol (wrap64 ((ol.length : Int) - 1))).f4 = (rd_T55 l i).f4
       · rw [if_pos c3] at h
         obtain ⟨k0, k1_, k2, k3, k4, h⟩ := h
         have c3b : ((rd_T55 ol (wrap64 ((ol.length : Int) - 1))).f4 == (rd_T55 l i).f4) = true := beq_iff_eq.mpr c3
         have d0b : ((rd_T55 ol (wrap64 ((ol.length : Int) - 1))).f1.f0 == (rd_T55 l i).f0.f0) = true := beq_iff_eq.mpr k0
         have d1b : ((rd_T55 ol (wrap64 ((ol.length : Int) - 1))).f1.f1 == (rd_T55 l i).f0.f1) = true := beq_iff_eq.mpr k1_
         have d2b : ((rd_T55 ol (wrap64 ((ol.length : Int) - 1))).f1.f2 == (rd_T55 l i).f0.f2) = true := beq_iff_eq.mpr k2
         have d3b : ((rd_T55 ol (wrap64 ((ol.length : Int) - 1))).f2 == (rd_T55 l i).f2) = true := beq_iff_eq.mpr k3
         have d4b : ((rd_T55 ol (wrap64 ((ol.length : Int) - 1))).f3 == (rd_T55 l i).f3) = true := beq_iff_eq.mpr k4
         clear c3 k0 k1_ k2 k3 k4
         have HW := Aside0.mk h
         clear h
         skip
         refine start_ (n := 46) (S := fun w' => Below wf.heap.size wf w' ∧ w'.cell? ⟨q, 0, none⟩ = some (.int .i64 (rd_T55 l i).f0.f0) ∧ w'.cell? ⟨q, 1, none⟩ = some (.int .i64 (rd_T55 l i).f0.f1) ∧ w'.cell? ⟨q, 2, none⟩ = some (.int .i64 (rd_T55 l i).f0.f2) ∧ w'.cell? ⟨q, 3, none⟩ = some (.int .i64 (rd_T55 l i).f1.f0) ∧ w'.cell? ⟨q, 4, none⟩ = some (.int .i64 (rd_T55 l i).f1.f1) ∧ w'.cell? ⟨q, 5, none⟩ = some (.int .i64 (rd_T55 l i).f1.f2) ∧ w'.cell? ⟨q, 6, none⟩ = some (.int .i64 (rd_T55 l i).f2) ∧ w'.cell? ⟨q, 7, none⟩ = some (.int .i64 (rd_T55 l i).f3) ∧ w'.cell? ⟨q, 8, none⟩ = some (.int .i64 (rd_T55 l i).f4) ∧ w'.cell? (ao.add ((wrap64 ((ol.length : Int) - 1)).toNat * 9)) = some (.int .i64 (rd_T55 ol (wrap64 ((ol.length : Int) - 1))).f0.f0) ∧ w'.cell? ⟨(ao.add ((wrap64 ((ol.length : Int) - 1)).toNat * 9)).block, (ao.add ((wrap64 ((ol.length : Int) - 1)).toNat * 9)).off + 1, none⟩ = some (.int .i64 (rd_T55 ol (wrap64 ((ol.length : Int) - 1))).f0.f1) ∧ w'.cell? ⟨(ao.add ((wrap64 ((ol.length : Int) - 1)).toNat * 9)).block, (ao.add ((wrap64 ((ol.length : Int) - 1)).toNat * 9)).off + 2, none⟩ = some (.int .i64 (rd_T55 ol (wrap64 ((ol.length : Int) - 1))).f0.f2) ∧ w'.cell? ⟨(ao.add ((wrap64 ((ol.length : Int) - 1)).toNat * 9)).block, (ao.add ((wrap64 ((ol.length : Int) - 1)).toNat * 9)).off + 3, none⟩ = some (.int .i64 (rd_T55 ol (wrap64 ((ol.length : Int) - 1))).f1.f0) ∧ w'.cell? ⟨(ao.add ((wrap64 ((ol.length : Int) - 1)).toNat * 9)).block, (ao.add ((wrap64 ((ol.length : Int) - 1)).toNat * 9)).off + 4, none⟩ = some (.int .i64 (rd_T55 ol (wrap64 ((ol.length : Int) - 1))).f1.f1) ∧ w'.cell? ⟨(ao.add ((wrap64 ((ol.length : Int) - 1)).toNat * 9)).block, (ao.add ((wrap64 ((ol.length : Int) - 1)).toNat * 9)).off + 5, none⟩ = some (.int .i64 (rd_T55 ol (wrap64 ((ol.length : Int) - 1))).f1.f2) ∧ w'.cell? ⟨(ao.add ((wrap64 ((ol.length : Int) - 1)).toNat * 9)).block, (ao.add ((wrap64 ((ol.length : Int) - 1)).toNat * 9)).off + 6, none⟩ = some (.int .i64 (rd_T55 ol (wrap64 ((ol.length : Int) - 1))).f2) ∧ w'.cell? ⟨(ao.add ((wrap64 ((ol.length : Int) - 1)).toNat * 9)).block, (ao.add ((wrap64 ((ol.length : Int) - 1)).toNat * 9)).off + 7, none⟩ = some (.int .i64 (rd_T55 ol (wrap64 ((ol.length : Int) - 1))).f3) ∧ w'.cell? ⟨(ao.add ((wrap64 ((ol.length : Int) - 1)).toNat * 9)).block, (ao.add ((wrap64 ((ol.length : Int) - 1)).toNat * 9)).off + 8, none⟩ = some (.int .i64 (rd_T55 ol (wrap64 ((ol.length : Int) - 1))).f4)) (ds := []) #[false, false, false, false, false, false, false, false, false, false, false, false, false, false, false, false, false, false, false, false, false, false, false, false, false, false, false, false, false, false, false, false, false, false, false, false, false, false, false, false, false, false, false, false, false, false] (by kernel_rfl) rfl rfl ⟨below_drew (Below.refl _ _), pw_cell_below (below_drew (Below.refl _ _)) hm0, pw_cell_below (below_drew (Below.refl _ _)) hm1, pw_cell_below (below_drew (Below.refl _ _)) hm2, pw_cell_below (below_drew (Below.refl _ _)) hm3, pw_cell_below (below_drew (Below.refl _ _)) hm4, pw_cell_below (below_drew (Below.refl _ _)) hm5, pw_cell_below (below_drew (Below.refl _ _)) hm6, pw_cell_below (below_drew (Below.refl _ _)) hm7, pw_cell_below (below_drew (Below.refl _ _)) hm8, pw_cell_below (below_drew (Below.refl _ _)) ho0, pw_cell_below (below_drew (Below.refl _ _)) ho1, pw_cell_below (below_drew (Below.refl _ _)) ho2, pw_cell_below (below_drew (Below.refl _ _)) ho3, pw_cell_below (below_drew (Below.refl _ _)) ho4, pw_cell_below (below_drew (Below.refl _ _)) ho5, pw_cell_below (below_drew (Below.refl _ _)) ho6, pw_cell_below (below_drew (Below.refl _ _)) ho7, pw_cell_below (below_drew (Below.refl _ _)) ho8⟩ (fun hHeld => ?_)
         generalize World.drew _ = wd at hHeld ⊢
         refine pu 0 15 (bzz 46 1) (by kernel_rfl) ?_
         refine pu 1 16 (bzz 46 3) (by kernel_rfl) ?_
         refine pu 2 17 (bzz 46 7) (by kernel_rfl) ?_
         refine pu 3 18 (bzz 46 15) (by kernel_rfl) ?_
         refine pu 4 19 (bzz 46 31) (by kernel_rfl) ?_
         refine pu 5 20 (bzz 46 63) (by kernel_rfl) ?_
         refine pu 6 21 (bzz 46 127) (by kernel_rfl) ?_
         refine pu 7 22 (bzz 46 255) (by kernel_rfl) ?_
         refine pu 9 24 (bzz 46 767) (by kernel_rfl) ?_
         refine ta 8 23 (bzz 46 1023) (by kernel_rfl) hHeld ?_
         refine ta 10 25 (bzz 46 2047) (by kernel_rfl) hHeld ?_
         refine pu 11 26 (bzz 46 4095) (by kernel_rfl) ?_
         refine pu 12 27 (bzz 46 8191) (by kernel_rfl) ?_
         refine pu 13 28 (bzz 46 16383) (by kernel_rfl) ?_
         refine pu 14 29 (bzz 46 32767) (by kernel_rfl) ?_
         refine pu 15 30 (bzz 46 65535) (by kernel_rfl) ?_
         refine pu 16 31 (bzz 46 131071) (by kernel_rfl) ?_
         refine pu 17 32 (bzz 46 262143) (by kernel_rfl) ?_
         refine pu 18 33 (bzz 46 524287) (by kernel_rfl) ?_
         refine pu 20 35 (bzz 46 1572863) (by kernel_rfl) ?_
         refine ta 19 34 (bzz 46 2097151) (by kernel_rfl) hHeld ?_
         refine ta 21 36 (bzz 46 4194303) (by kernel_rfl) hHeld ?_
         refine pu 22 37 (bzz 46 8388607) (by kernel_rfl) ?_
         refine pu 23 38 (bzz 46 16777215) (by kernel_rfl) ?_
         refine pu 24 39 (bzz 46 33554431) (by kernel_rfl) ?_
         refine pu 25 40 (bzz 46 67108863) (by kernel_rfl) ?_
         refine pu 26 41 (bzz 46 134217727) (by kernel_rfl) ?_
         refine pu 27 42 (bzz 46 268435455) (by kernel_rfl) ?_
         refine pu 28 43 (bzz 46 536870911) (by kernel_rfl) ?_
         refine pu 29 44 (bzz 46 1073741823) (by kernel_rfl) ?_
         refine pu 31 46 (bzz 46 3221225471) (by kernel_rfl) ?_
         refine ta 30 45 (bzz 46 4294967295) (by kernel_rfl) hHeld ?_
         refine ta 32 47 (bzz 46 8589934591) (by kernel_rfl) hHeld ?_
         refine pu 33 48 (bzz 46 17179869183) (by kernel_rfl) ?_
         refine pu 34 49 (bzz 46 34359738367) (by kernel_rfl) ?_
         refine pu 35 50 (bzz 46 68719476735) (by kernel_rfl) ?_
         refine pu 36 51 (bzz 46 137438953471) (by kernel_rfl) ?_
         refine pu 37 52 (bzz 46 274877906943) (by kernel_rfl) ?_
         refine pu 38 53 (bzz 46 549755813887) (by kernel_rfl) ?_
         refine pu 39 54 (bzz 46 1099511627775) (by kernel_rfl) ?_
         refine pu 40 55 (bzz 46 2199023255551) (by kernel_rfl) ?_
         refine pu 42 57 (bzz 46 6597069766655) (by kernel_rfl) ?_
         refine ta 41 56 (bzz 46 8796093022207) (by kernel_rfl) hHeld ?_
         refine ta 43 58 (bzz 46 17592186044415) (by kernel_rfl) hHeld ?_
         refine pu 44 59 (bzz 46 35184372088831) (by kernel_rfl) ?_
         refine pu 45 60 (bzz 46 70368744177663) (by kernel_rfl) ?_
         refine done_ (by kernel_rfl) ?_
         have BKd := Aside0.mk (blk_below BKP.out hHeld.1)
         have HOd := Aside0.mk (Kd.R_below HOf.out hHeld.1)
         have HBd := Aside0.mk (below_step HBw.out hHeld.1)
         clear hHeld BKP HOf HBw hm0 hm1 hm2 hm3 hm4 hm5 hm6 hm7 hm8 ho0 ho1 ho2 ho3 ho4 ho5 ho6 ho7 ho8
         have hm0 : wd.cell? ⟨q, 0, none⟩ = some (.int .i64 (rd_T55 l i).f0.f0) := (blk_cell BKd.out 0).trans rfl
         have hm1 : wd.cell? ⟨q, 1, none⟩ = some (.int .i64 (rd_T55 l i).f0.f1) := (blk_cell BKd.out 1).trans rfl
         have hm2 : wd.cell? ⟨q, 2, none⟩ = some (.int .i64 (rd_T55 l i).f0.f2) := (blk_cell BKd.out 2).trans rfl
         have hm3 : wd.cell? ⟨q, 3, none⟩ = some (.int .i64 (rd_T55 l i).f1.f0) := (blk_cell BKd.out 3).trans rfl
         have hm4 : wd.cell? ⟨q, 4, none⟩ = some (.int .i64 (rd_T55 l i).f1.f1) := (blk_cell BKd.out 4).trans rfl
         have hm5 : wd.cell? ⟨q, 5, none⟩ = some (.int .i64 (rd_T55 l i).f1.f2) := (blk_cell BKd.out 5).trans rfl
         have hm6 : wd.cell? ⟨q, 6, none⟩ = some (.int .i64 (rd_T55 l i).f2) := (blk_cell BKd.out 6).trans rfl
         have hm7 : wd.cell? ⟨q, 7, none⟩ = some (.int .i64 (rd_T55 l i).f3) := (blk_cell BKd.out 7).trans rfl
         have hm8 : wd.cell? ⟨q, 8, none⟩ = some (.int .i64 (rd_T55 l i).f4) := (blk_cell BKd.out 8).trans rfl
         obtain ⟨gs, cs_, es_, hgs, hgl, cls_, hcl_⟩ := Kd.R_form HOd.out (by simpa using c2b)
         injection es_ with es1 _ es2
         injection es1 with es1
         have ES := Aside0.mk es1
         have HGS : Aside0 (w.heap.size ≤ gs) := ⟨hgs⟩
         have hfz : ∀ j_, wd.frozen? ⟨(ao.add ((wrap64 ((ol.length : Int) - 1)).toNat * 9)).block, (ao.add ((wrap64 ((ol.length : Int) - 1)).toNat * 9)).off + j_, none⟩ = false := by intro j_; subst es1; rw [add_plain]; exact blk_frozen hcl_ _
         have hfz3 := hfz 3
         have hfz4 := hfz 4
         have hfz5 := hfz 5
         obtain ⟨ad2, ed2, ho0, ho1, ho2, ho3, ho4, ho5, ho6, ho7, ho8⟩ := at_T55 (Kd.R_reads' HOd.out).2.2 (wrap64 ((ol.length : Int) - 1)) j0 j1
         injection ed2 with ed2
         subst ed2
         clear es1 hgs hgl hcl_ es2 hfz
         go_wp2_with (fail)
         generalize hwe : World.setCell _ _ _ = we
         have hR : Kd.R k55 55 we w.heap.size (fun k => True ∧ k ≠ q) (.slice (some ao) ol.length co) (ol.set (wrap64 ((ol.length : Int) - 1)).toNat { (rd_T55 ol (wrap64 ((ol.length : Int) - 1))) with f1 := (rd_T55 l i).f1 }) ∧ Below w.heap.size w we := by
           have ea := ES.out
           subst ea
           obtain ⟨c_, hcl_, hM_, hcc_, hfr_⟩ := Kd.R_elem HOd.out z55 (wrap64 ((ol.length : Int) - 1)) j0 j1
           obtain rfl := k55_openM hM_
           have hseg := (Kd.R_seg HOd.out (wrap64 ((ol.length : Int) - 1)) j0 j1 rfl hcc_ (j := 3) (seg := [.int .i64 (rd_T55 l i).f1.f0, .int .i64 (rd_T55 l i).f1.f1, .int .i64 (rd_T55 l i).f1.f2]) (by exact (by decide : 3 + 3 ≤ 9)) (x' := { (rd_T55 ol (wrap64 ((ol.length : Int) - 1))) with f1 := (rd_T55 l i).f1 }) (k55_mkM _ _ _ _) (fun _ hk => hk)).1
           have hwe2 : we = World.setCells wd gs ((wrap64 ((ol.length : Int) - 1)).toNat * 9 + 3) [.int .i64 (rd_T55 l i).f1.f0, .int .i64 (rd_T55 l i).f1.f1, .int .i64 (rd_T55 l i).f1.f2] := by rw [← hwe]; simp only [World.setCells, add_plain]
           rw [hwe2]
           refine ⟨hseg, ?_⟩
           simp only [World.setCells]
           exact ((HBd.out.setCell HGS.out _).setCell HGS.out _).setCell HGS.out _
         have HON := Aside0.mk (Kd.R_mono hR.1 (ok' := fun _ => True) (fun _ _ => trivial))
         have HBN := Aside0.mk hR.2
         clear hR hwe
         go_roundg k1
         case measure => have := HK.out; omega
         case rel => exact ⟨(wrap64 (i + 1)), _, (by first | rfl | (simp; done) | (simp [*]; done)), HW, ⟨by have := HK.out; omega⟩, HON, HBN⟩
       · rw [if_neg c3] at h
         have c3b : ((rd_T55 ol (wrap64 ((ol.length : Int) - 1))).f4 == (rd_T55 l i).f4) = false := beq_eq_false_iff_ne.mpr c3
         clear c3
         have HW := Aside0.mk h
         clear h
         refine start_ (n := 46) (S := fun w' => Below wf.heap.size wf w' ∧ w'.cell? ⟨q, 4, none⟩ = some (.int .i64 (rd_T55 l i).f1.f1) ∧ w'.cell? ⟨q, 8, none⟩ = some (.int .i64 (rd_T55 l i).f4) ∧ w'.cell? (ao.add ((wrap64 ((ol.length : Int) - 1)).toNat * 9)) = some (.int .i64 (rd_T55 ol (wrap64 ((ol.length : Int) - 1))).f0.f0) ∧ w'.cell? ⟨(ao.add ((wrap64 ((ol.length : Int) - 1)).toNat * 9)).block, (ao.add ((wrap64 ((ol.length : Int) - 1)).toNat * 9)).off + 1, none⟩ = some (.int .i64 (rd_T55 ol (wrap64 ((ol.length : Int) - 1))).f0.f1) ∧ w'.cell? ⟨(ao.add ((wrap64 ((ol.length : Int) - 1)).toNat * 9)).block, (ao.add ((wrap64 ((ol.length : Int) - 1)).toNat * 9)).off + 2, none⟩ = some (.int .i64 (rd_T55 ol (wrap64 ((ol.length : Int) - 1))).f0.f2) ∧ w'.cell? ⟨(ao.add ((wrap64 ((ol.length : Int) - 1)).toNat * 9)).block, (ao.add ((wrap64 ((ol.length : Int) - 1)).toNat * 9)).off + 3, none⟩ = some (.int .i64 (rd_T55 ol (wrap64 ((ol.length : Int) - 1))).f1.f0) ∧ w'.cell? ⟨(ao.add ((wrap64 ((ol.length : Int) - 1)).toNat * 9)).block, (ao.add ((wrap64 ((ol.length : Int) - 1)).toNat * 9)).off + 4, none⟩ = some (.int .i64 (rd_T55 ol (wrap64 ((ol.length : Int) - 1))).f1.f1) ∧ w'.cell? ⟨(ao.add ((wrap64 ((ol.length : Int) - 1)).toNat * 9)).block, (ao.add ((wrap64 ((ol.length : Int) - 1)).toNat * 9)).off + 5, none⟩ = some (.int .i64 (rd_T55 ol (wrap64 ((ol.length : Int) - 1))).f1.f2) ∧ w'.cell? ⟨(ao.add ((wrap64 ((ol.length : Int) - 1)).toNat * 9)).block, (ao.add ((wrap64 ((ol.length : Int) - 1)).toNat * 9)).off + 6, none⟩ = some (.int .i64 (rd_T55 ol (wrap64 ((ol.length : Int) - 1))).f2) ∧ w'.cell? ⟨(ao.add ((wrap64 ((ol.length : Int) - 1)).toNat * 9)).block, (ao.add ((wrap64 ((ol.length : Int) - 1)).toNat * 9)).off + 7, none⟩ = some (.int .i64 (rd_T55 ol (wrap64 ((ol.length : Int) - 1))).f3) ∧ w'.cell? ⟨(ao.add ((wrap64 ((ol.length : Int) - 1)).toNat * 9)).block, (ao.add ((wrap64 ((ol.length : Int) - 1)).toNat * 9)).off + 8, none⟩ = some (.int .i64 (rd_T55 ol (wrap64 ((ol.length : Int) - 1))).f4)) (ds := []) #[false, false, false, false, false, false, false, false, false, false, false, false, false, false, false, false, false, false, false, false, false, false, false, false, false, false, false, false, false, false, false, false, false, false, false, false, false, false, false, false, false, false, false, false, false, false] (by kernel_rfl) rfl rfl ⟨below_drew (Below.refl _ _), pw_cell_below (below_drew (Below.refl _ _)) hm4, pw_cell_below (below_drew (Below.refl _ _)) hm8, pw_cell_below (below_drew (Below.refl _ _)) ho0, pw_cell_below (below_drew (Below.refl _ _)) ho1, pw_cell_below (below_drew (Below.refl _ _)) ho2, pw_cell_below (below_drew (Below.refl _ _)) ho3, pw_cell_below (below_drew (Below.refl _ _)) ho4, pw_cell_below (below_drew (Below.refl _ _)) ho5, pw_cell_below (below_drew (Below.refl _ _)) ho6, pw_cell_below (below_drew (Below.refl _ _)) ho7, pw_cell_below (below_drew (Below.refl _ _)) ho8⟩ (fun hHeld => ?_)
         generalize World.drew _ = wd at hHeld ⊢
         refine pu 0 15 (bzz 46 1) (by kernel_rfl) ?_
         refine pu 1 16 (bzz 46 3) (by kernel_rfl) ?_
         refine pu 2 17 (bzz 46 7) (by kernel_rfl) ?_
         refine pu 3 18 (bzz 46 15) (by kernel_rfl) ?_
         refine pu 4 19 (bzz 46 31) (by kernel_rfl) ?_
         refine pu 5 20 (bzz 46 63) (by kernel_rfl) ?_
         refine pu 6 21 (bzz 46 127) (by kernel_rfl) ?_
         refine pu 7 22 (bzz 46 255) (by kernel_rfl) ?_
         refine pu 9 24 (bzz 46 767) (by kernel_rfl) ?_
         refine ta 8 23 (bzz 46 1023) (by kernel_rfl) hHeld ?_
         refine ta 10 25 (bzz 46 2047) (by kernel_rfl) hHeld ?_
         refine pu 11 26 (bzz 46 4095) (by kernel_rfl) ?_
         refine pu 12 27 (bzz 46 8191) (by kernel_rfl) ?_
         refine pu 13 28 (bzz 46 16383) (by kernel_rfl) ?_
         refine po 14 29 (bzz 46 32767) (by kernel_rfl) ?_
         refine po 15 30 (bzz 46 65535) (by kernel_rfl) ?_
         refine po 16 31 (bzz 46 131071) (by kernel_rfl) ?_
         refine po 17 32 (bzz 46 262143) (by kernel_rfl) ?_
         refine po 18 33 (bzz 46 524287) (by kernel_rfl) ?_
         refine po 19 34 (bzz 46 1048575) (by kernel_rfl) ?_
         refine po 20 35 (bzz 46 2097151) (by kernel_rfl) ?_
         refine po 21 36 (bzz 46 4194303) (by kernel_rfl) ?_
         refine po 22 37 (bzz 46 8388607) (by kernel_rfl) ?_
         refine pu 23 38 (bzz 46 16777215) (by kernel_rfl) ?_
         refine pu 24 39 (bzz 46 33554431) (by kernel_rfl) ?_
         refine po 25 40 (bzz 46 67108863) (by kernel_rfl) ?_
         refine po 26 41 (bzz 46 134217727) (by kernel_rfl) ?_
         refine po 27 42 (bzz 46 268435455) (by kernel_rfl) ?_
         refine po 28 43 (bzz 46 536870911) (by kernel_rfl) ?_
         refine po 29 44 (bzz 46 1073741823) (by kernel_rfl) ?_
         refine po 30 45 (bzz 46 2147483647) (by kernel_rfl) ?_
         refine po 31 46 (bzz 46 4294967295) (by kernel_rfl) ?_
         refine po 32 47 (bzz 46 8589934591) (by kernel_rfl) ?_
         refine po 33 48 (bzz 46 17179869183) (by kernel_rfl) ?_
         refine pu 34 49 (bzz 46 34359738367) (by kernel_rfl) ?_
         refine pu 35 50 (bzz 46 68719476735) (by kernel_rfl) ?_
         refine po 36 51 (bzz 46 137438953471) (by kernel_rfl) ?_
         refine po 37 52 (bzz 46 274877906943) (by kernel_rfl) ?_
         refine po 38 53 (bzz 46 549755813887) (by kernel_rfl) ?_
         refine po 39 54 (bzz 46 1099511627775) (by kernel_rfl) ?_
         refine po 40 55 (bzz 46 2199023255551) (by kernel_rfl) ?_
         refine po 41 56 (bzz 46 4398046511103) (by kernel_rfl) ?_
         refine po 42 57 (bzz 46 8796093022207) (by kernel_rfl) ?_
         refine po 43 58 (bzz 46 17592186044415) (by kernel_rfl) ?_
         refine po 44 59 (bzz 46 35184372088831) (by kernel_rfl) ?_
         refine pu 45 60 (bzz 46 70368744177663) (by kernel_rfl) ?_
         refine done_ (by kernel_rfl) ?_
         have BKd := Aside0.mk (blk_below BKP.out hHeld.1)
         have HOd := Aside0.mk (Kd.R_below HOf.out hHeld.1)
         have HBd := Aside0.mk (below_step HBw.out hHeld.1)
         clear hHeld BKP HOf HBw hm0 hm1 hm2 hm3 hm4 hm5 hm6 hm7 hm8 ho0 ho1 ho2 ho3 ho4 ho5 ho6 ho7 ho8
         have hm0 : wd.cell? ⟨q, 0, none⟩ = some (.int .i64 (rd_T55 l i).f0.f0) := (blk_cell BKd.out 0).trans rfl
         have hm1 : wd.cell? ⟨q, 1, none⟩ = some (.int .i64 (rd_T55 l i).f0.f1) := (blk_cell BKd.out 1).trans rfl
         have hm2 : wd.cell? ⟨q, 2, none⟩ = some (.int .i64 (rd_T55 l i).f0.f2) := (blk_cell BKd.out 2).trans rfl
         have hm3 : wd.cell? ⟨q, 3, none⟩ = some (.int .i64 (rd_T55 l i).f1.f0) := (blk_cell BKd.out 3).trans rfl
         have hm4 : wd.cell? ⟨q, 4, none⟩ = some (.int .i64 (rd_T55 l i).f1.f1) := (blk_cell BKd.out 4).trans rfl
         have hm5 : wd.cell? ⟨q, 5, none⟩ = some (.int .i64 (rd_T55 l i).f1.f2) := (blk_cell BKd.out 5).trans rfl
         have hm6 : wd.cell? ⟨q, 6, none⟩ = some (.int .i64 (rd_T55 l i).f2) := (blk_cell BKd.out 6).trans rfl
         have hm7 : wd.cell? ⟨q, 7, none⟩ = some (.int .i64 (rd_T55 l i).f3) := (blk_cell BKd.out 7).trans rfl
         have hm8 : wd.cell? ⟨q, 8, none⟩ = some (.int .i64 (rd_T55 l i).f4) := (blk_cell BKd.out 8).trans rfl
         go_wp2_with (first | ((with_reducible refine gate_builtin (b := .append) (xs := #[.tmp 68, .tmp 70]) rfl ?_); at_builtin; refine Kd.R_append k55 (w0 := w) w.heap.size rfl (.tmp 68) (.tmp 70) 30 55 (.agg #[.int .i64 0, .int .i64 0, .int .i64 0, .int .i64 0, .int .i64 0, .int .i64 0, .int .i64 0, .int .i64 0, .int .i64 0]) 72 rfl Try.underlying30 info55 rfl (by decide) (by omega) (.slice (some ao) ol.length co) ol (rd_T55 l i) [.int .i64 (rd_T55 l i).f0.f0, .int .i64 (rd_T55 l i).f0.f1, .int .i64 (rd_T55 l i).f0.f2, .int .i64 (rd_T55 l i).f1.f0, .int .i64 (rd_T55 l i).f1.f1, .int .i64 (rd_T55 l i).f1.f2, .int .i64 (rd_T55 l i).f2, .int .i64 (rd_T55 l i).f3, .int .i64 (rd_T55 l i).f4] (fun k => True ∧ k ≠ q) (fun _ => False) rfl (by first | (go_simp; done) | (go_simp; rfl)) ?aP (fun _ hk => hk.elim) ?aF ?aO ?aB ?aS ?aL ?_; (case aP => exact k55_mkM _ _ _ _); (case aB => exact HBd.out); (case aF => exact (fun k hk => ⟨trivial, Kd.freshB BKd.out k hk⟩)); (case aO => exact HOd.out); (case aS => exact (below_size HBd.out)); (case aL => have := HL.out; omega); intro v9 w9 ho hb hg hat; have HON := Aside0.mk (Kd.R_mono ho (ok' := fun _ => True) (fun _ _ => trivial)); have HBN := Aside0.mk hb; clear ho hb hg hat))
         go_roundg k1
         case measure => have := HK.out; omega
         case rel => exact ⟨(wrap64 (i + 1)), _, (by first | rfl | (simp; done) | (simp [*]; done)), HW, ⟨by have := HK.out; omega⟩, HON, HBN⟩
     · rw [if_neg c2] at h
       have c2b : decide (0 < ol.length) = false := decide_eq_false c2
       have c2c : decide (0 < (ol.length : Int)) = false := decide_eq_false (by omega)
       clear c2
       have HW := Aside0.mk h
       clear h
       refine start_ (n := 46) (S := fun w' => Below wf.heap.size wf w' ∧ w'.cell? ⟨q, 4, none⟩ = some (.int .i64 (rd_T55 l i).f1.f1)) (ds := []) #[false, false, false, false, false, false, false, false, false, false, false, false, false, false, false, false, false, false, false, false, false, false, false, false, false, false, false, false, false, false, false, false, false, false, false, false, false, false, false, false, false, false, false, false, false, false] (by kernel_rfl) rfl rfl ⟨below_drew (Below.refl _ _), pw_cell_below (below_drew (Below.refl _ _)) hm4⟩ (fun hHeld => ?_)
       generalize World.drew _ = wd at hHeld ⊢
       refine pu 0 15 (bzz 46 1) (by kernel_rfl) ?_
       refine pu 1 16 (bzz 46 3) (by kernel_rfl) ?_
       refine pu 2 17 (bzz 46 7) (by kernel_rfl) ?_
       refine po 3 18 (bzz 46 15) (by kernel_rfl) ?_
       refine po 4 19 (bzz 46 31) (by kernel_rfl) ?_
       refine po 5 20 (bzz 46 63) (by kernel_rfl) ?_
       refine po 6 21 (bzz 46 127) (by kernel_rfl) ?_
       refine po 7 22 (bzz 46 255) (by kernel_rfl) ?_
       refine po 8 23 (bzz 46 511) (by kernel_rfl) ?_
       refine po 9 24 (bzz 46 1023) (by kernel_rfl) ?_
       refine po 10 25 (bzz 46 2047) (by kernel_rfl) ?_
       refine po 11 26 (bzz 46 4095) (by kernel_rfl) ?_
       refine pu 12 27 (bzz 46 8191) (by kernel_rfl) ?_
       refine pu 13 28 (bzz 46 16383) (by kernel_rfl) ?_
       refine po 14 29 (bzz 46 32767) (by kernel_rfl) ?_
       refine po 15 30 (bzz 46 65535) (by kernel_rfl) ?_
       refine po 16 31 (bzz 46 131071) (by kernel_rfl) ?_
       refine po 17 32 (bzz 46 262143) (by kernel_rfl) ?_
       refine po 18 33 (bzz 46 524287) (by kernel_rfl) ?_
       refine po 19 34 (bzz 46 1048575) (by kernel_rfl) ?_
       refine po 20 35 (bzz 46 2097151) (by kernel_rfl) ?_
       refine po 21 36 (bzz 46 4194303) (by kernel_rfl) ?_
       refine po 22 37 (bzz 46 8388607) (by kernel_rfl) ?_
       refine pu 23 38 (bzz 46 16777215) (by kernel_rfl) ?_
       refine pu 24 39 (bzz 46 33554431) (by kernel_rfl) ?_
       refine po 25 40 (bzz 46 67108863) (by kernel_rfl) ?_
       refine po 26 41 (bzz 46 134217727) (by kernel_rfl) ?_
       refine po 27 42 (bzz 46 268435455) (by kernel_rfl) ?_
       refine po 28 43 (bzz 46 536870911) (by kernel_rfl) ?_
       refine po 29 44 (bzz 46 1073741823) (by kernel_rfl) ?_
       refine po 30 45 (bzz 46 2147483647) (by kernel_rfl) ?_
       refine po 31 46 (bzz 46 4294967295) (by kernel_rfl) ?_
       refine po 32 47 (bzz 46 8589934591) (by kernel_rfl) ?_
       refine po 33 48 (bzz 46 17179869183) (by kernel_rfl) ?_
       refine pu 34 49 (bzz 46 34359738367) (by kernel_rfl) ?_
       refine pu 35 50 (bzz 46 68719476735) (by kernel_rfl) ?_
       refine po 36 51 (bzz 46 137438953471) (by kernel_rfl) ?_
       refine po 37 52 (bzz 46 274877906943) (by kernel_rfl) ?_
       refine po 38 53 (bzz 46 549755813887) (by kernel_rfl) ?_
       refine po 39 54 (bzz 46 1099511627775) (by kernel_rfl) ?_
       refine po 40 55 (bzz 46 2199023255551) (by kernel_rfl) ?_
       refine po 41 56 (bzz 46 4398046511103) (by kernel_rfl) ?_
       refine po 42 57 (bzz 46 8796093022207) (by kernel_rfl) ?_
       refine po 43 58 (bzz 46 17592186044415) (by kernel_rfl) ?_
       refine po 44 59 (bzz 46 35184372088831) (by kernel_rfl) ?_
       refine pu 45 60 (bzz 46 70368744177663) (by kernel_rfl) ?_
       refine done_ (by kernel_rfl) ?_
       have BKd := Aside0.mk (blk_below BKP.out hHeld.1)
       have HOd := Aside0.mk (Kd.R_below HOf.out hHeld.1)
       have HBd := Aside0.mk (below_step HBw.out hHeld.1)
       clear hHeld BKP HOf HBw hm0 hm1 hm2 hm3 hm4 hm5 hm6 hm7 hm8
       have hm0 : wd.cell? ⟨q, 0, none⟩ = some (.int .i64 (rd_T55 l i).f0.f0) := (blk_cell BKd.out 0).trans rfl
       have hm1 : wd.cell? ⟨q, 1, none⟩ = some (.int .i64 (rd_T55 l i).f0.f1) := (blk_cell BKd.out 1).trans rfl
       have hm2 : wd.cell? ⟨q, 2, none⟩ = some (.int .i64 (rd_T55 l i).f0.f2) := (blk_cell BKd.out 2).trans rfl
       have hm3 : wd.cell? ⟨q, 3, none⟩ = some (.int .i64 (rd_T55 l i).f1.f0) := (blk_cell BKd.out 3).trans rfl
       have hm4 : wd.cell? ⟨q, 4, none⟩ = some (.int .i64 (rd_T55 l i).f1.f1) := (blk_cell BKd.out 4).trans rfl
       have hm5 : wd.cell? ⟨q, 5, none⟩ = some (.int .i64 (rd_T55 l i).f1.f2) := (blk_cell BKd.out 5).trans rfl
       have hm6 : wd.cell? ⟨q, 6, none⟩ = some (.int .i64 (rd_T55 l i).f2) := (blk_cell BKd.out 6).trans rfl
       have hm7 : wd.cell? ⟨q, 7, none⟩ = some (.int .i64 (rd_T55 l i).f3) := (blk_cell BKd.out 7).trans rfl
       have hm8 : wd.cell? ⟨q, 8, none⟩ = some (.int .i64 (rd_T55 l i).f4) := (blk_cell BKd.out 8).trans rfl
       go_wp2_with (first | ((with_reducible refine gate_builtin (b := .append) (xs := #[.tmp 68, .tmp 70]) rfl ?_); at_builtin; refine Kd.R_append k55 (w0 := w) w.heap.size rfl (.tmp 68) (.tmp 70) 30 55 (.agg #[.int .i64 0, .int .i64 0, .int .i64 0, .int .i64 0, .int .i64 0, .int .i64 0, .int .i64 0, .int .i64 0, .int .i64 0]) 72 rfl Try.underlying30 info55 rfl (by decide) (by omega) (.slice Ao ol.length co) ol (rd_T55 l i) [.int .i64 (rd_T55 l i).f0.f0, .int .i64 (rd_T55 l i).f0.f1, .int .i64 (rd_T55 l i).f0.f2, .int .i64 (rd_T55 l i).f1.f0, .int .i64 (rd_T55 l i).f1.f1, .int .i64 (rd_T55 l i).f1.f2, .int .i64 (rd_T55 l i).f2, .int .i64 (rd_T55 l i).f3, .int .i64 (rd_T55 l i).f4] (fun k => True ∧ k ≠ q) (fun _ => False) rfl (by first | (go_simp; done) | (go_simp; rfl)) ?aP (fun _ hk => hk.elim) ?aF ?aO ?aB ?aS ?aL ?_; (case aP => exact k55_mkM _ _ _ _); (case aB => exact HBd.out); (case aF => exact (fun k hk => ⟨trivial, Kd.freshB BKd.out k hk⟩)); (case aO => exact HOd.out); (case aS => exact (below_size HBd.out)); (case aL => have := HL.out; omega); intro v9 w9 ho hb hg hat; have HON := Aside0.mk (Kd.R_mono ho (ok' := fun _ => True) (fun _ _ => trivial)); have HBN := Aside0.mk hb; clear ho hb hg hat))
       go_roundg k1
       case measure => have := HK.out; omega
       case rel => exact ⟨(wrap64 (i + 1)), _, (by first | rfl | (simp; done) | (simp [*]; done)), HW, ⟨by have := HK.out; omega⟩, HON, HBN⟩
   · rw [if_neg c1] at h
     subst h
     have c1b : decide (i < (l.length : Int)) = false := decide_eq_false c1
     clear c1
     go_wp2
     go_ret
     exact ⟨_, rfl, HO.out, HB.out⟩
end Go.Proofs.Ytmaegpblaihepaa.F
