/- Position, by a contract. -/
import Derived.Test.YtmaegpblaihepaaWc
import Derived.Test.YtmaegpblaihepaaT1
import Derived.Test.YtmaegpblaihepaaPos
namespace Go.Proofs.Ytmaegpblaihepaa.F
open Go.RowKit Go.Proofs.YtmaegpblaihepaaW.PrintWords Go.Proofs.YtmaegpblaihepaaW.PrintLast Go.Proofs.YtmaegpblaihepaaW.PrintMore
attribute [local go_sem] max2_int min2_int max_two min_two max_three min_three max_four min_four
set_option linter.unusedVariables false
set_option linter.unusedSimpArgs false
def PosP (s : CS) (x y z : Int) : Prop := ((s.ms.length : Int) = 0 ∧ x = 0 ∧ y = 0 ∧ z = 0) ∨ ((s.ms.length : Int) ≠ 0 ∧ s.ix = (s.ms.length : Int) ∧ 0 ≤ wrap64 (s.ix - 1) ∧ wrap64 (s.ix - 1) < (s.ms.length : Int) ∧ x = (rd_T55 s.ms (wrap64 (s.ix - 1))).f1.f0 ∧ y = (rd_T55 s.ms (wrap64 (s.ix - 1))).f1.f1 ∧ z = (rd_T55 s.ms (wrap64 (s.ix - 1))).f1.f2) ∨ ((s.ms.length : Int) ≠ 0 ∧ 0 ≤ s.ix ∧ s.ix < (s.ms.length : Int) ∧ ∃ k n e, controller_length.f k (rd_T55 s.ms s.ix).f0.f0 (rd_T55 s.ms s.ix).f0.f1 (rd_T55 s.ms s.ix).f0.f2 (rd_T55 s.ms s.ix).f1.f0 (rd_T55 s.ms s.ix).f1.f1 (rd_T55 s.ms s.ix).f1.f2 (rd_T55 s.ms s.ix).f2 (rd_T55 s.ms s.ix).f3 (rd_T55 s.ms s.ix).f4 = some n ∧ Hand.posS (rd_T55 s.ms s.ix).f0.f0 (rd_T55 s.ms s.ix).f0.f1 (rd_T55 s.ms s.ix).f0.f2 (rd_T55 s.ms s.ix).f1.f0 (rd_T55 s.ms s.ix).f1.f1 (rd_T55 s.ms s.ix).f1.f2 s.pt n = some (x, y, z, e))
set_option maxRecDepth 100000 in
set_option maxHeartbeats 8000000 in
theorem controller_Position.calls (x y z : Int) {B g : Nat} {s : CS} {w : World} (hs : Ctl B w g s) (hp : PosP s x y z) : Calls Try.prog 10 #[.pointer (some ⟨g, 0, none⟩)] w fun e w' => e = .returned (.agg #[.int .i64 x, .int .i64 y, .int .i64 z]) ∧ Below w.heap.size w w' := by
 unfold PosP at hp
 obtain ⟨ms, sp, ac, je, ix, pt, pl, at_, bra, held, brk, pcs, lx, ly, lz⟩ := s
 obtain ⟨hBg, AM, cM, AP, cP, AQ, cQ, hbox, hm1, hp1, hq1, hM, hP, hQ⟩ := hs.open_
 dsimp only at hbox hm1 hp1 hq1 hM hP hQ hp ⊢
 have HS := Aside0.mk hs
 have BKg := Aside0.mk hbox
 have RM := Aside0.mk hM
 have RP := Aside0.mk hP
 have RQ := Aside0.mk hQ
 have GEg := Aside0.mk hBg
 have HM1 := Aside0.mk hm1
 have HP1 := Aside0.mk hp1
 have HQ1 := Aside0.mk hq1
 clear hs hbox hM hP hQ hBg hm1 hp1 hq1
 have hc0 : w.cell? ⟨g, 0, none⟩ = some (.slice AM ms.length cM) := (blk_cell BKg.out 0).trans rfl
 have hc4 : w.cell? ⟨g, 4, none⟩ = some (.int .i64 ix) := (blk_cell BKg.out 4).trans rfl
 have hc5 : w.cell? ⟨g, 5, none⟩ = some (.int .i64 pt) := (blk_cell BKg.out 5).trans rfl
 have hu42 := Try.underlying42
 have hu55 := Try.underlying55
 have hu59 := Try.underlying59
 have HB := Aside0.mk (Below.refl w.heap.size w)
 rcases hp with ⟨hz, rfl, rfl, rfl⟩ | hp
 · have hzb : ((ms.length : Int) == 0) = true := beq_iff_eq.mpr hz
   clear hz
   go_enter Try.func10, Try.ntmps10
   go_upto_block 0 with (first | ((with_reducible refine gate_dst (N := 2) rfl ?_); refine box_event ?hg (N := 2) ?hd (cs := #[.int .i64 0, .int .i64 0, .int .i64 0]) (t := 42) ?hr ?_; (case hd => rfl); (case hg => rfl); (case hr => first | (go_simp; done) | (go_simp; rfl)); intro q hg wq hbox hb; have BKQ := Aside0.mk hbox; have HBQ := Aside0.mk hb; have hqg : g ≠ q := (by rw [hg]; exact Nat.ne_of_lt (blk_lt BKg.out)); have HGE : Aside0 (w.heap.size ≤ q) := ⟨(by rw [hg]; exact Nat.le_refl _)⟩; clear hg hbox hb))
   replace hc0 := pw_cell_below HBQ.out hc0
   replace hc4 := pw_cell_below HBQ.out hc4
   replace hc5 := pw_cell_below HBQ.out hc5
   have hq0 : wq.cell? ⟨q, 0, none⟩ = some (.int .i64 0) := (blk_cell BKQ.out 0).trans rfl
   have hqf0 := blk_frozen BKQ.out 0
   have hq1 : wq.cell? ⟨q, 1, none⟩ = some (.int .i64 0) := (blk_cell BKQ.out 1).trans rfl
   have hqf1 := blk_frozen BKQ.out 1
   have hq2 : wq.cell? ⟨q, 2, none⟩ = some (.int .i64 0) := (blk_cell BKQ.out 2).trans rfl
   have hqf2 := blk_frozen BKQ.out 2
   go_wp2
   refine bodyPost_ret (results_c1 rfl _ _ q 42 #[.int .i64 0, .int .i64 0, .int .i64 0] (0, 0) _ rfl (by (with_reducible repeat (first | refine blk_drewN ?_ _ | refine blk_drew ?_ | refine blk_alloc ?_ _)); refine blk_put (cs := #[.int .i64 0, .int .i64 0, .int .i64 0]) ?_ 2 _ rfl; (with_reducible repeat (first | refine blk_drewN ?_ _ | refine blk_drew ?_ | refine blk_alloc ?_ _)); refine blk_put (cs := #[.int .i64 0, .int .i64 0, .int .i64 0]) ?_ 1 _ rfl; (with_reducible repeat (first | refine blk_drewN ?_ _ | refine blk_drew ?_ | refine blk_alloc ?_ _)); refine blk_put (cs := #[.int .i64 0, .int .i64 0, .int .i64 0]) ?_ 0 _ rfl; (with_reducible repeat (first | refine blk_drewN ?_ _ | refine blk_drew ?_ | refine blk_alloc ?_ _)); exact BKQ.out) hu42 rfl (by kernel_rfl)) rfl ?_
   refine ⟨rfl, ?_⟩
   have hge : w.heap.size ≤ q := HGE.out
   exact ((HBQ.out.setCell hge _).setCell hge _).setCell hge _
 rcases hp with ⟨hz, hi, hi0, hi1, rfl, rfl, rfl⟩ | ⟨hz, h0, h1, k, n, e, hl, hp⟩
 · have hzb : ((ms.length : Int) == 0) = false := beq_eq_false_iff_ne.mpr hz
   have hib : (ix == (ms.length : Int)) = true := beq_iff_eq.mpr hi
   obtain ⟨ad, ea_, hx0, hx1, hx2, hx3, hx4, hx5, hx6, hx7, hx8⟩ := at_T55 (Kd.R_reads' RM.out).2.2 (wrap64 (ix - 1)) hi0 hi1
   subst ea_
   clear hz hi
   replace hi0 := eq_true hi0
   replace hi1 := eq_true hi1
   go_enter Try.func10, Try.ntmps10
   go_upto_block 0 with (first | ((with_reducible refine gate_dst (N := 2) rfl ?_); refine box_event ?hg (N := 2) ?hd (cs := #[.int .i64 0, .int .i64 0, .int .i64 0]) (t := 42) ?hr ?_; (case hd => rfl); (case hg => rfl); (case hr => first | (go_simp; done) | (go_simp; rfl)); intro q hg wq hbox hb; have BKQ := Aside0.mk hbox; have HBQ := Aside0.mk hb; have hqg : g ≠ q := (by rw [hg]; exact Nat.ne_of_lt (blk_lt BKg.out)); have HGE : Aside0 (w.heap.size ≤ q) := ⟨(by rw [hg]; exact Nat.le_refl _)⟩; clear hg hbox hb))
   replace hc0 := pw_cell_below HBQ.out hc0
   replace hc4 := pw_cell_below HBQ.out hc4
   replace hc5 := pw_cell_below HBQ.out hc5
   have hq0 : wq.cell? ⟨q, 0, none⟩ = some (.int .i64 0) := (blk_cell BKQ.out 0).trans rfl
   have hqf0 := blk_frozen BKQ.out 0
   have hq1 : wq.cell? ⟨q, 1, none⟩ = some (.int .i64 0) := (blk_cell BKQ.out 1).trans rfl
   have hqf1 := blk_frozen BKQ.out 1
   have hq2 : wq.cell? ⟨q, 2, none⟩ = some (.int .i64 0) := (blk_cell BKQ.out 2).trans rfl
   have hqf2 := blk_frozen BKQ.out 2
   replace hx0 := pw_cell_below HBQ.out hx0
   replace hx1 := pw_cell_below HBQ.out hx1
   replace hx2 := pw_cell_below HBQ.out hx2
   replace hx3 := pw_cell_below HBQ.out hx3
   replace hx4 := pw_cell_below HBQ.out hx4
   replace hx5 := pw_cell_below HBQ.out hx5
   replace hx6 := pw_cell_below HBQ.out hx6
   replace hx7 := pw_cell_below HBQ.out hx7
   replace hx8 := pw_cell_below HBQ.out hx8
   go_upto_region 3 with (fail)
   refine start_ (n := 11) (S := fun w' => Below wq.heap.size wq w' ∧ w'.cell? ⟨g, 0, none⟩ = some (.slice (some ad) ms.length cM) ∧ w'.cell? ⟨g, 4, none⟩ = some (.int .i64 ix) ∧ w'.cell? ⟨(ad.add ((wrap64 (ix - 1)).toNat * 9)).block, (ad.add ((wrap64 (ix - 1)).toNat * 9)).off + 3, none⟩ = some (.int .i64 (rd_T55 ms (wrap64 (ix - 1))).f1.f0) ∧ w'.cell? ⟨(ad.add ((wrap64 (ix - 1)).toNat * 9)).block, (ad.add ((wrap64 (ix - 1)).toNat * 9)).off + 4, none⟩ = some (.int .i64 (rd_T55 ms (wrap64 (ix - 1))).f1.f1) ∧ w'.cell? ⟨(ad.add ((wrap64 (ix - 1)).toNat * 9)).block, (ad.add ((wrap64 (ix - 1)).toNat * 9)).off + 5, none⟩ = some (.int .i64 (rd_T55 ms (wrap64 (ix - 1))).f1.f2)) (ds := []) #[false, false, false, false, false, false, false, false, false, false, false] (by kernel_rfl) rfl rfl ⟨below_drew (Below.refl _ _), pw_cell_below (below_drew (Below.refl _ _)) hc0, pw_cell_below (below_drew (Below.refl _ _)) hc4, pw_cell_below (below_drew (Below.refl _ _)) hx3, pw_cell_below (below_drew (Below.refl _ _)) hx4, pw_cell_below (below_drew (Below.refl _ _)) hx5⟩ (fun hHeld => ?_)
   generalize World.drew _ = wd at hHeld ⊢
   refine pu 0 15 (bzz 11 1) (by kernel_rfl) ?_
   refine pu 1 16 (bzz 11 3) (by kernel_rfl) ?_
   refine pu 2 17 (bzz 11 7) (by kernel_rfl) ?_
   refine pu 4 19 (bzz 11 23) (by kernel_rfl) ?_
   refine pu 5 20 (bzz 11 55) (by kernel_rfl) ?_
   refine pu 6 21 (bzz 11 119) (by kernel_rfl) ?_
   refine ta 3 18 (bzz 11 127) (by kernel_rfl) hHeld ?_
   refine ta 7 22 (bzz 11 255) (by kernel_rfl) hHeld ?_
   refine pu 8 23 (bzz 11 511) (by kernel_rfl) ?_
   refine pu 9 24 (bzz 11 1023) (by kernel_rfl) ?_
   refine pu 10 14 (bzz 11 2047) (by kernel_rfl) ?_
   refine done_ (by kernel_rfl) ?_
   have HBn := Aside0.mk hHeld.1
   replace hc0 := hHeld.2.1
   replace hc4 := hHeld.2.2.1
   replace hx3 := hHeld.2.2.2.1
   replace hx4 := hHeld.2.2.2.2.1
   replace hx5 := hHeld.2.2.2.2.2
   clear hHeld
   replace BKQ := Aside0.mk (blk_below BKQ.out HBn.out)
   replace HBQ := Aside0.mk (below_step HBQ.out HBn.out)
   clear HBn
   clear hc5 hzb hq0 hq1 hq2 hqf0 hqf1 hqf2 hx0 hx1 hx2 hx6 hx7 hx8
   go_upto_region 4 with (fail)
   refine start_ (n := 13) (S := fun w' => Below wd.heap.size wd w' ∧ w'.cell? ⟨g, 0, none⟩ = some (.slice (some ad) ms.length cM) ∧ w'.cell? ⟨g, 4, none⟩ = some (.int .i64 ix) ∧ w'.cell? ⟨(ad.add ((wrap64 (ix - 1)).toNat * 9)).block, (ad.add ((wrap64 (ix - 1)).toNat * 9)).off + 3, none⟩ = some (.int .i64 (rd_T55 ms (wrap64 (ix - 1))).f1.f0) ∧ w'.cell? ⟨(ad.add ((wrap64 (ix - 1)).toNat * 9)).block, (ad.add ((wrap64 (ix - 1)).toNat * 9)).off + 4, none⟩ = some (.int .i64 (rd_T55 ms (wrap64 (ix - 1))).f1.f1) ∧ w'.cell? ⟨(ad.add ((wrap64 (ix - 1)).toNat * 9)).block, (ad.add ((wrap64 (ix - 1)).toNat * 9)).off + 5, none⟩ = some (.int .i64 (rd_T55 ms (wrap64 (ix - 1))).f1.f2)) (ds := [12]) #[false, false, false, false, false, false, false, false, false, false, false, false, false] (by kernel_rfl) rfl rfl ⟨below_drew (Below.refl _ _), pw_cell_below (below_drew (Below.refl _ _)) hc0, pw_cell_below (below_drew (Below.refl _ _)) hc4, pw_cell_below (below_drew (Below.refl _ _)) hx3, pw_cell_below (below_drew (Below.refl _ _)) hx4, pw_cell_below (below_drew (Below.refl _ _)) hx5⟩ (fun hHeld => ?_)
   generalize World.drew _ = wd2 at hHeld ⊢
   refine pu 0 25 (bzz 13 1) (by kernel_rfl) ?_
   refine pu 1 26 (bzz 13 3) (by kernel_rfl) ?_
   refine pu 2 27 (bzz 13 7) (by kernel_rfl) ?_
   refine pu 4 29 (bzz 13 23) (by kernel_rfl) ?_
   refine pu 5 30 (bzz 13 55) (by kernel_rfl) ?_
   refine pu 6 31 (bzz 13 119) (by kernel_rfl) ?_
   refine ta 3 28 (bzz 13 127) (by kernel_rfl) hHeld ?_
   refine ta 7 32 (bzz 13 255) (by kernel_rfl) hHeld ?_
   refine pu 8 33 (bzz 13 511) (by kernel_rfl) ?_
   refine pu 9 34 (bzz 13 1023) (by kernel_rfl) ?_
   refine pu 10 35 (bzz 13 2047) (by kernel_rfl) ?_
   refine ta 11 36 (bzz 13 4095) (by kernel_rfl) hHeld ?_
   refine last_ (i := 12) (N := none) (bzz 13 8191) rfl rfl (by kernel_rfl) (by decide) (fun K hK => ?_)
   have BKQ3 := Aside0.mk (blk_below BKQ.out hHeld.1)
   have HBQ3 := Aside0.mk (below_step HBQ.out hHeld.1)
   have hq0 : wd2.cell? ⟨q, 0, none⟩ = some (.int .i64 0) := (blk_cell BKQ3.out 0).trans rfl
   have hq1 : wd2.cell? ⟨q, 1, none⟩ = some (.int .i64 0) := (blk_cell BKQ3.out 1).trans rfl
   have hq2 : wd2.cell? ⟨q, 2, none⟩ = some (.int .i64 0) := (blk_cell BKQ3.out 2).trans rfl
   have hqf0 := blk_frozen BKQ3.out 0
   have hqf1 := blk_frozen BKQ3.out 1
   have hqf2 := blk_frozen BKQ3.out 2
   refine skip_ (w1 := ?_) (by rfl) rfl ?_ ?_
   rotate_left
   · go_simp
     rfl
   refine hK.out _ _ ?_
   clear hK K
   refine done_ (by kernel_rfl) ?_
   have BKQ3 := Aside0.mk (blk_below BKQ.out hHeld.1)
   have HBQ3 := Aside0.mk (below_step HBQ.out hHeld.1)
   go_wp2
   refine bodyPost_ret (results_c1 rfl _ _ q 42 #[.int .i64 (rd_T55 ms (wrap64 (ix - 1))).f1.f0, .int .i64 (rd_T55 ms (wrap64 (ix - 1))).f1.f1, .int .i64 (rd_T55 ms (wrap64 (ix - 1))).f1.f2] (0, 0) _ rfl (by (with_reducible repeat (first | refine blk_drewN ?_ _ | refine blk_drew ?_ | refine blk_alloc ?_ _)); refine blk_put (cs := #[.int .i64 (rd_T55 ms (wrap64 (ix - 1))).f1.f0, .int .i64 (rd_T55 ms (wrap64 (ix - 1))).f1.f1, .int .i64 0]) ?_ 2 _ rfl; (with_reducible repeat (first | refine blk_drewN ?_ _ | refine blk_drew ?_ | refine blk_alloc ?_ _)); refine blk_put (cs := #[.int .i64 (rd_T55 ms (wrap64 (ix - 1))).f1.f0, .int .i64 0, .int .i64 0]) ?_ 1 _ rfl; (with_reducible repeat (first | refine blk_drewN ?_ _ | refine blk_drew ?_ | refine blk_alloc ?_ _)); refine blk_put (cs := #[.int .i64 0, .int .i64 0, .int .i64 0]) ?_ 0 _ rfl; (with_reducible repeat (first | refine blk_drewN ?_ _ | refine blk_drew ?_ | refine blk_alloc ?_ _)); exact BKQ3.out) hu42 rfl (by kernel_rfl)) rfl ?_
   refine ⟨rfl, ?_⟩
   have hge : w.heap.size ≤ q := HGE.out
   exact ((HBQ3.out.setCell hge _).setCell hge _).setCell hge _
 · have hzb : ((ms.length : Int) == 0) = false := beq_eq_false_iff_ne.mpr hz
   have hib : (ix == (ms.length : Int)) = false := beq_eq_false_iff_ne.mpr (by omega)
   obtain ⟨ad, ea_, hx0, hx1, hx2, hx3, hx4, hx5, hx6, hx7, hx8⟩ := at_T55 (Kd.R_reads' RM.out).2.2 ix h0 h1
   subst ea_
   clear hz
   replace h0 := eq_true h0
   replace h1 := eq_true h1
   have HL := Aside0.mk hl
   have HP := Aside0.mk hp
   clear hl hp
   go_enter Try.func10, Try.ntmps10
   go_upto_block 0 with (first | ((with_reducible refine gate_dst (N := 2) rfl ?_); refine box_event ?hg (N := 2) ?hd (cs := #[.int .i64 0, .int .i64 0, .int .i64 0]) (t := 42) ?hr ?_; (case hd => rfl); (case hg => rfl); (case hr => first | (go_simp; done) | (go_simp; rfl)); intro q hg wq hbox hb; have BKQ := Aside0.mk hbox; have HBQ := Aside0.mk hb; have hqg : g ≠ q := (by rw [hg]; exact Nat.ne_of_lt (blk_lt BKg.out)); have HGE : Aside0 (w.heap.size ≤ q) := ⟨(by rw [hg]; exact Nat.le_refl _)⟩; clear hg hbox hb))
   replace hc0 := pw_cell_below HBQ.out hc0
   replace hc4 := pw_cell_below HBQ.out hc4
   replace hc5 := pw_cell_below HBQ.out hc5
   replace hx0 := pw_cell_below HBQ.out hx0
   replace hx1 := pw_cell_below HBQ.out hx1
   replace hx2 := pw_cell_below HBQ.out hx2
   replace hx3 := pw_cell_below HBQ.out hx3
   replace hx4 := pw_cell_below HBQ.out hx4
   replace hx5 := pw_cell_below HBQ.out hx5
   replace hx6 := pw_cell_below HBQ.out hx6
   replace hx7 := pw_cell_below HBQ.out hx7
   replace hx8 := pw_cell_below HBQ.out hx8
   go_upto_region 3 with (fail)
   refine start_ (n := 11) (S := fun w' => Below wq.heap.size wq w' ∧ w'.cell? ⟨g, 0, none⟩ = some (.slice (some ad) ms.length cM) ∧ w'.cell? ⟨g, 4, none⟩ = some (.int .i64 ix)) (ds := []) #[false, false, false, false, false, false, false, false, false, false, false] (by kernel_rfl) rfl rfl ⟨below_drew (Below.refl _ _), pw_cell_below (below_drew (Below.refl _ _)) hc0, pw_cell_below (below_drew (Below.refl _ _)) hc4⟩ (fun hHeld => ?_)
   generalize World.drew _ = wd at hHeld ⊢
   refine pu 0 15 (bzz 11 1) (by kernel_rfl) ?_
   refine pu 1 16 (bzz 11 3) (by kernel_rfl) ?_
   refine pu 2 17 (bzz 11 7) (by kernel_rfl) ?_
   refine pu 4 19 (bzz 11 23) (by kernel_rfl) ?_
   refine pu 5 20 (bzz 11 55) (by kernel_rfl) ?_
   refine pu 6 21 (bzz 11 119) (by kernel_rfl) ?_
   refine ta 3 18 (bzz 11 127) (by kernel_rfl) hHeld ?_
   refine ta 7 22 (bzz 11 255) (by kernel_rfl) hHeld ?_
   refine pu 8 23 (bzz 11 511) (by kernel_rfl) ?_
   refine pu 9 24 (bzz 11 1023) (by kernel_rfl) ?_
   refine pu 10 14 (bzz 11 2047) (by kernel_rfl) ?_
   refine done_ (by kernel_rfl) ?_
   have HBn := Aside0.mk hHeld.1
   replace hc0 := hHeld.2.1
   replace hc4 := hHeld.2.2
   clear hHeld
   replace BKQ := Aside0.mk (blk_below BKQ.out HBn.out)
   replace HBQ := Aside0.mk (below_step HBQ.out HBn.out)
   replace hc5 := pw_cell_below HBn.out hc5
   replace hx0 := pw_cell_below HBn.out hx0
   replace hx1 := pw_cell_below HBn.out hx1
   replace hx2 := pw_cell_below HBn.out hx2
   replace hx3 := pw_cell_below HBn.out hx3
   replace hx4 := pw_cell_below HBn.out hx4
   replace hx5 := pw_cell_below HBn.out hx5
   replace hx6 := pw_cell_below HBn.out hx6
   replace hx7 := pw_cell_below HBn.out hx7
   replace hx8 := pw_cell_below HBn.out hx8
   clear HBn
   have HGd := Aside0.mk (blk_lt BKQ.out)
   go_upto_region 5 with (fail)
   refine start_ (n := 12) (S := fun w' => Below wd.heap.size wd w' ∧ w'.cell? ⟨g, 0, none⟩ = some (.slice (some ad) ms.length cM) ∧ w'.cell? ⟨g, 4, none⟩ = some (.int .i64 ix) ∧ w'.cell? (ad.add (ix.toNat * 9)) = some (.int .i64 (rd_T55 ms ix).f0.f0) ∧ w'.cell? ⟨(ad.add (ix.toNat * 9)).block, (ad.add (ix.toNat * 9)).off + 1, none⟩ = some (.int .i64 (rd_T55 ms ix).f0.f1) ∧ w'.cell? ⟨(ad.add (ix.toNat * 9)).block, (ad.add (ix.toNat * 9)).off + 2, none⟩ = some (.int .i64 (rd_T55 ms ix).f0.f2) ∧ w'.cell? ⟨(ad.add (ix.toNat * 9)).block, (ad.add (ix.toNat * 9)).off + 3, none⟩ = some (.int .i64 (rd_T55 ms ix).f1.f0) ∧ w'.cell? ⟨(ad.add (ix.toNat * 9)).block, (ad.add (ix.toNat * 9)).off + 4, none⟩ = some (.int .i64 (rd_T55 ms ix).f1.f1) ∧ w'.cell? ⟨(ad.add (ix.toNat * 9)).block, (ad.add (ix.toNat * 9)).off + 5, none⟩ = some (.int .i64 (rd_T55 ms ix).f1.f2) ∧ w'.cell? ⟨(ad.add (ix.toNat * 9)).block, (ad.add (ix.toNat * 9)).off + 6, none⟩ = some (.int .i64 (rd_T55 ms ix).f2) ∧ w'.cell? ⟨(ad.add (ix.toNat * 9)).block, (ad.add (ix.toNat * 9)).off + 7, none⟩ = some (.int .i64 (rd_T55 ms ix).f3) ∧ w'.cell? ⟨(ad.add (ix.toNat * 9)).block, (ad.add (ix.toNat * 9)).off + 8, none⟩ = some (.int .i64 (rd_T55 ms ix).f4)) (ds := [11]) #[false, false, false, false, false, false, false, false, false, false, false, false] (by kernel_rfl) rfl rfl ⟨below_drew (Below.refl _ _), pw_cell_below (below_drew (Below.refl _ _)) hc0, pw_cell_below (below_drew (Below.refl _ _)) hc4, pw_cell_below (below_drew (Below.refl _ _)) hx0, pw_cell_below (below_drew (Below.refl _ _)) hx1, pw_cell_below (below_drew (Below.refl _ _)) hx2, pw_cell_below (below_drew (Below.refl _ _)) hx3, pw_cell_below (below_drew (Below.refl _ _)) hx4, pw_cell_below (below_drew (Below.refl _ _)) hx5, pw_cell_below (below_drew (Below.refl _ _)) hx6, pw_cell_below (below_drew (Below.refl _ _)) hx7, pw_cell_below (below_drew (Below.refl _ _)) hx8⟩ (fun hHeld => ?_)
   generalize World.drew _ = wd2 at hHeld ⊢
   refine pu 0 37 (bzz 12 1) (by kernel_rfl) ?_
   refine pu 1 38 (bzz 12 3) (by kernel_rfl) ?_
   refine pu 2 39 (bzz 12 7) (by kernel_rfl) ?_
   refine pu 4 41 (bzz 12 23) (by kernel_rfl) ?_
   refine pu 5 42 (bzz 12 55) (by kernel_rfl) ?_
   refine pu 6 43 (bzz 12 119) (by kernel_rfl) ?_
   refine ta 3 40 (bzz 12 127) (by kernel_rfl) hHeld ?_
   refine ta 7 44 (bzz 12 255) (by kernel_rfl) hHeld ?_
   refine pu 8 45 (bzz 12 511) (by kernel_rfl) ?_
   refine ta 9 46 (bzz 12 1023) (by kernel_rfl) hHeld ?_
   refine one_ (i := 10) (N := some 3) (bzz 12 2047) rfl rfl (by kernel_rfl) (by decide) (fun K hK => ?_)
   refine box_value (cs := #[.int .i64 0, .int .i64 0, .int .i64 0, .int .i64 0, .int .i64 0, .int .i64 0, .int .i64 0, .int .i64 0, .int .i64 0]) (t := 55) (by rfl) rfl ?_ ?_
   · first | (go_simp; done) | (go_simp; rfl)
   intro m hm wm hboxm hb
   have BKm := Aside0.mk hboxm
   have HBm := Aside0.mk (below_step hHeld.1 hb)
   have hgm : g ≠ m := by rw [hm]; exact Nat.ne_of_lt (blk_lt (blk_below BKg.out (below_step HBQ.out hHeld.1)))
   have hqm : q ≠ m := by rw [hm]; exact Nat.ne_of_lt (blk_lt (blk_below BKQ.out hHeld.1))
   have HGm : Aside0 (w.heap.size ≤ m) := ⟨by rw [hm]; exact (below_step HBQ.out hHeld.1).size⟩
   clear hboxm hm
   have hm0 : wm.cell? ⟨m, 0, none⟩ = some (.int .i64 0) := (blk_cell BKm.out 0).trans rfl
   have hm1 : wm.cell? ⟨m, 1, none⟩ = some (.int .i64 0) := (blk_cell BKm.out 1).trans rfl
   have hm2 : wm.cell? ⟨m, 2, none⟩ = some (.int .i64 0) := (blk_cell BKm.out 2).trans rfl
   have hm3 : wm.cell? ⟨m, 3, none⟩ = some (.int .i64 0) := (blk_cell BKm.out 3).trans rfl
   have hm4 : wm.cell? ⟨m, 4, none⟩ = some (.int .i64 0) := (blk_cell BKm.out 4).trans rfl
   have hm5 : wm.cell? ⟨m, 5, none⟩ = some (.int .i64 0) := (blk_cell BKm.out 5).trans rfl
   have hm6 : wm.cell? ⟨m, 6, none⟩ = some (.int .i64 0) := (blk_cell BKm.out 6).trans rfl
   have hm7 : wm.cell? ⟨m, 7, none⟩ = some (.int .i64 0) := (blk_cell BKm.out 7).trans rfl
   have hm8 : wm.cell? ⟨m, 8, none⟩ = some (.int .i64 0) := (blk_cell BKm.out 8).trans rfl
   have hmf0 := blk_frozen BKm.out 0
   have hmf1 := blk_frozen BKm.out 1
   have hmf2 := blk_frozen BKm.out 2
   have hmf3 := blk_frozen BKm.out 3
   have hmf4 := blk_frozen BKm.out 4
   have hmf5 := blk_frozen BKm.out 5
   have hmf6 := blk_frozen BKm.out 6
   have hmf7 := blk_frozen BKm.out 7
   have hmf8 := blk_frozen BKm.out 8
   refine hK.out _ _ ⟨below_step hHeld.1 hb, pw_cell_below (below_step hHeld.1 hb) hc0, pw_cell_below (below_step hHeld.1 hb) hc4, pw_cell_below (below_step hHeld.1 hb) hx0, pw_cell_below (below_step hHeld.1 hb) hx1, pw_cell_below (below_step hHeld.1 hb) hx2, pw_cell_below (below_step hHeld.1 hb) hx3, pw_cell_below (below_step hHeld.1 hb) hx4, pw_cell_below (below_step hHeld.1 hb) hx5, pw_cell_below (below_step hHeld.1 hb) hx6, pw_cell_below (below_step hHeld.1 hb) hx7, pw_cell_below (below_step hHeld.1 hb) hx8⟩ (fun hHeld => ?_)
   clear hK K
   refine norm_ (a' := ?_) ?_ ?_
   rotate_left
   · show Act.put _ (some 3) _ = _
     simp only [Act.put, List.setIfInBounds_toArray, List.set_cons_zero, List.set_cons_succ, i64_w, i32_w]
     rfl
   refine last_ (i := 11) (N := none) (bzz 12 4095) rfl rfl (by kernel_rfl) (by decide) (fun K hK => ?_)
   refine skip_ (w1 := ?_) (by rfl) rfl ?_ ?_
   rotate_left
   · go_simp
     rfl
   refine hK.out _ _ ?_
   clear hK K
   refine done_ (by kernel_rfl) ?_
   generalize hwf : World.setCell _ _ _ = wf
   have BKM : Aside0 (wf.heap[m]? = some (.cells #[.int .i64 (rd_T55 ms ix).f0.f0, .int .i64 (rd_T55 ms ix).f0.f1, .int .i64 (rd_T55 ms ix).f0.f2, .int .i64 (rd_T55 ms ix).f1.f0, .int .i64 (rd_T55 ms ix).f1.f1, .int .i64 (rd_T55 ms ix).f1.f2, .int .i64 (rd_T55 ms ix).f2, .int .i64 (rd_T55 ms ix).f3, .int .i64 (rd_T55 ms ix).f4] 55 (0, 0))) := ⟨by rw [← hwf]; exact (by refine blk_put (cs := #[.int .i64 (rd_T55 ms ix).f0.f0, .int .i64 (rd_T55 ms ix).f0.f1, .int .i64 (rd_T55 ms ix).f0.f2, .int .i64 (rd_T55 ms ix).f1.f0, .int .i64 (rd_T55 ms ix).f1.f1, .int .i64 (rd_T55 ms ix).f1.f2, .int .i64 (rd_T55 ms ix).f2, .int .i64 (rd_T55 ms ix).f3, .int .i64 0]) ?_ 8 _ rfl; refine blk_put (cs := #[.int .i64 (rd_T55 ms ix).f0.f0, .int .i64 (rd_T55 ms ix).f0.f1, .int .i64 (rd_T55 ms ix).f0.f2, .int .i64 (rd_T55 ms ix).f1.f0, .int .i64 (rd_T55 ms ix).f1.f1, .int .i64 (rd_T55 ms ix).f1.f2, .int .i64 (rd_T55 ms ix).f2, .int .i64 0, .int .i64 0]) ?_ 7 _ rfl; refine blk_put (cs := #[.int .i64 (rd_T55 ms ix).f0.f0, .int .i64 (rd_T55 ms ix).f0.f1, .int .i64 (rd_T55 ms ix).f0.f2, .int .i64 (rd_T55 ms ix).f1.f0, .int .i64 (rd_T55 ms ix).f1.f1, .int .i64 (rd_T55 ms ix).f1.f2, .int .i64 0, .int .i64 0, .int .i64 0]) ?_ 6 _ rfl; refine blk_put (cs := #[.int .i64 (rd_T55 ms ix).f0.f0, .int .i64 (rd_T55 ms ix).f0.f1, .int .i64 (rd_T55 ms ix).f0.f2, .int .i64 (rd_T55 ms ix).f1.f0, .int .i64 (rd_T55 ms ix).f1.f1, .int .i64 0, .int .i64 0, .int .i64 0, .int .i64 0]) ?_ 5 _ rfl; refine blk_put (cs := #[.int .i64 (rd_T55 ms ix).f0.f0, .int .i64 (rd_T55 ms ix).f0.f1, .int .i64 (rd_T55 ms ix).f0.f2, .int .i64 (rd_T55 ms ix).f1.f0, .int .i64 0, .int .i64 0, .int .i64 0, .int .i64 0, .int .i64 0]) ?_ 4 _ rfl; refine blk_put (cs := #[.int .i64 (rd_T55 ms ix).f0.f0, .int .i64 (rd_T55 ms ix).f0.f1, .int .i64 (rd_T55 ms ix).f0.f2, .int .i64 0, .int .i64 0, .int .i64 0, .int .i64 0, .int .i64 0, .int .i64 0]) ?_ 3 _ rfl; refine blk_put (cs := #[.int .i64 (rd_T55 ms ix).f0.f0, .int .i64 (rd_T55 ms ix).f0.f1, .int .i64 0, .int .i64 0, .int .i64 0, .int .i64 0, .int .i64 0, .int .i64 0, .int .i64 0]) ?_ 2 _ rfl; refine blk_put (cs := #[.int .i64 (rd_T55 ms ix).f0.f0, .int .i64 0, .int .i64 0, .int .i64 0, .int .i64 0, .int .i64 0, .int .i64 0, .int .i64 0, .int .i64 0]) ?_ 1 _ rfl; refine blk_put (cs := #[.int .i64 0, .int .i64 0, .int .i64 0, .int .i64 0, .int .i64 0, .int .i64 0, .int .i64 0, .int .i64 0, .int .i64 0]) ?_ 0 _ rfl; exact BKm.out)⟩
   have BKG : Aside0 (wf.heap[g]? = some (.cells #[.slice (some ad) ms.length cM, .int .i64 sp, .int .i64 ac, .int .i64 je, .int .i64 ix, .int .i64 pt, .slice AP pl.length cP, .int .i64 at_, .bool bra, .bool held, .bool brk, .slice AQ pcs.length cQ, .int .i64 lx, .int .i64 ly, .int .i64 lz] 59 (0, 0))) := ⟨by rw [← hwf]; exact (by refine blk_far ?_ hgm _; refine blk_far ?_ hgm _; refine blk_far ?_ hgm _; refine blk_far ?_ hgm _; refine blk_far ?_ hgm _; refine blk_far ?_ hgm _; refine blk_far ?_ hgm _; refine blk_far ?_ hgm _; refine blk_far ?_ hgm _; exact (blk_below BKg.out (below_step HBQ.out HBm.out)))⟩
   have BKQf : Aside0 (wf.heap[q]? = some (.cells #[.int .i64 0, .int .i64 0, .int .i64 0] 42 (0, 0))) := ⟨by rw [← hwf]; exact (by refine blk_far ?_ hqm _; refine blk_far ?_ hqm _; refine blk_far ?_ hqm _; refine blk_far ?_ hqm _; refine blk_far ?_ hqm _; refine blk_far ?_ hqm _; refine blk_far ?_ hqm _; refine blk_far ?_ hqm _; refine blk_far ?_ hqm _; exact (blk_below BKQ.out HBm.out))⟩
   have HBf : Aside0 (Below w.heap.size w wf) := ⟨by rw [← hwf]; exact ((((((((((below_step HBQ.out HBm.out).setCell HGm.out _).setCell HGm.out _).setCell HGm.out _).setCell HGm.out _).setCell HGm.out _).setCell HGm.out _).setCell HGm.out _).setCell HGm.out _).setCell HGm.out _)⟩
   clear hwf hHeld BKm HBm BKQ HBQ hc0 hc4 hc5 hx0 hx1 hx2 hx3 hx4 hx5 hx6 hx7 hx8 hm0 hm1 hm2 hm3 hm4 hm5 hm6 hm7 hm8 hmf0 hmf1 hmf2 hmf3 hmf4 hmf5 hmf6 hmf7 hmf8
   have hm0 : wf.cell? ⟨m, 0, none⟩ = some (.int .i64 (rd_T55 ms ix).f0.f0) := (blk_cell BKM.out 0).trans rfl
   have hm1 : wf.cell? ⟨m, 1, none⟩ = some (.int .i64 (rd_T55 ms ix).f0.f1) := (blk_cell BKM.out 1).trans rfl
   have hm2 : wf.cell? ⟨m, 2, none⟩ = some (.int .i64 (rd_T55 ms ix).f0.f2) := (blk_cell BKM.out 2).trans rfl
   have hm3 : wf.cell? ⟨m, 3, none⟩ = some (.int .i64 (rd_T55 ms ix).f1.f0) := (blk_cell BKM.out 3).trans rfl
   have hm4 : wf.cell? ⟨m, 4, none⟩ = some (.int .i64 (rd_T55 ms ix).f1.f1) := (blk_cell BKM.out 4).trans rfl
   have hm5 : wf.cell? ⟨m, 5, none⟩ = some (.int .i64 (rd_T55 ms ix).f1.f2) := (blk_cell BKM.out 5).trans rfl
   have hm6 : wf.cell? ⟨m, 6, none⟩ = some (.int .i64 (rd_T55 ms ix).f2) := (blk_cell BKM.out 6).trans rfl
   have hm7 : wf.cell? ⟨m, 7, none⟩ = some (.int .i64 (rd_T55 ms ix).f3) := (blk_cell BKM.out 7).trans rfl
   have hm8 : wf.cell? ⟨m, 8, none⟩ = some (.int .i64 (rd_T55 ms ix).f4) := (blk_cell BKM.out 8).trans rfl
   have hc5 : wf.cell? ⟨g, 5, none⟩ = some (.int .i64 pt) := (blk_cell BKG.out 5).trans rfl
   go_upto_region 6 with (fail)
   refine start_ (n := 17) (S := fun w' => Below wf.heap.size wf w' ∧ w'.cell? ⟨g, 5, none⟩ = some (.int .i64 pt) ∧ w'.cell? ⟨m, 0, none⟩ = some (.int .i64 (rd_T55 ms ix).f0.f0) ∧ w'.cell? ⟨m, 1, none⟩ = some (.int .i64 (rd_T55 ms ix).f0.f1) ∧ w'.cell? ⟨m, 2, none⟩ = some (.int .i64 (rd_T55 ms ix).f0.f2) ∧ w'.cell? ⟨m, 3, none⟩ = some (.int .i64 (rd_T55 ms ix).f1.f0) ∧ w'.cell? ⟨m, 4, none⟩ = some (.int .i64 (rd_T55 ms ix).f1.f1) ∧ w'.cell? ⟨m, 5, none⟩ = some (.int .i64 (rd_T55 ms ix).f1.f2) ∧ w'.cell? ⟨m, 6, none⟩ = some (.int .i64 (rd_T55 ms ix).f2) ∧ w'.cell? ⟨m, 7, none⟩ = some (.int .i64 (rd_T55 ms ix).f3) ∧ w'.cell? ⟨m, 8, none⟩ = some (.int .i64 (rd_T55 ms ix).f4)) (ds := [15]) #[false, false, false, false, false, false, false, false, false, false, false, false, false, false, false, false, false] (by kernel_rfl) rfl rfl ⟨below_drew (Below.refl _ _), pw_cell_below (below_drew (Below.refl _ _)) hc5, pw_cell_below (below_drew (Below.refl _ _)) hm0, pw_cell_below (below_drew (Below.refl _ _)) hm1, pw_cell_below (below_drew (Below.refl _ _)) hm2, pw_cell_below (below_drew (Below.refl _ _)) hm3, pw_cell_below (below_drew (Below.refl _ _)) hm4, pw_cell_below (below_drew (Below.refl _ _)) hm5, pw_cell_below (below_drew (Below.refl _ _)) hm6, pw_cell_below (below_drew (Below.refl _ _)) hm7, pw_cell_below (below_drew (Below.refl _ _)) hm8⟩ (fun hHeld => ?_)
   generalize World.drew _ = wd3 at hHeld ⊢
   refine pu 0 48 (bzz 17 1) (by kernel_rfl) ?_
   refine pu 2 50 (bzz 17 5) (by kernel_rfl) ?_
   refine pu 4 52 (bzz 17 21) (by kernel_rfl) ?_
   refine pu 5 53 (bzz 17 53) (by kernel_rfl) ?_
   refine pu 6 54 (bzz 17 117) (by kernel_rfl) ?_
   refine ta 1 49 (bzz 17 119) (by kernel_rfl) hHeld ?_
   refine ta 3 51 (bzz 17 127) (by kernel_rfl) hHeld ?_
   refine ta 7 55 (bzz 17 255) (by kernel_rfl) hHeld ?_
   refine ta 8 56 (bzz 17 511) (by kernel_rfl) hHeld ?_
   refine join_ (σ := Nat) 2 #[true, true, true, true, true, true, true, true, true, true, true, true, true, true, true, false, false] (fun s_ => [(57, .int .i64 n), (58, .tuple #[.agg #[.int .i64 x, .int .i64 y, .int .i64 z], .int .i64 e]), (47, .tuple #[.agg #[.int .i64 x, .int .i64 y, .int .i64 z], .int .i64 e]), (59, .agg #[.int .i64 x, .int .i64 y, .int .i64 z]), (60, .int .i64 e), (4, .pointer (some ⟨s_, 0, none⟩))]) (fun s_ w' => (Below wf.heap.size wf w' ∧ w'.cell? ⟨g, 5, none⟩ = some (.int .i64 pt) ∧ w'.cell? ⟨m, 0, none⟩ = some (.int .i64 (rd_T55 ms ix).f0.f0) ∧ w'.cell? ⟨m, 1, none⟩ = some (.int .i64 (rd_T55 ms ix).f0.f1) ∧ w'.cell? ⟨m, 2, none⟩ = some (.int .i64 (rd_T55 ms ix).f0.f2) ∧ w'.cell? ⟨m, 3, none⟩ = some (.int .i64 (rd_T55 ms ix).f1.f0) ∧ w'.cell? ⟨m, 4, none⟩ = some (.int .i64 (rd_T55 ms ix).f1.f1) ∧ w'.cell? ⟨m, 5, none⟩ = some (.int .i64 (rd_T55 ms ix).f1.f2) ∧ w'.cell? ⟨m, 6, none⟩ = some (.int .i64 (rd_T55 ms ix).f2) ∧ w'.cell? ⟨m, 7, none⟩ = some (.int .i64 (rd_T55 ms ix).f3) ∧ w'.cell? ⟨m, 8, none⟩ = some (.int .i64 (rd_T55 ms ix).f4)) ∧ w'.heap[s_]? = some (.cells #[.int .i64 0, .int .i64 0, .int .i64 0] 42 (0, 0)) ∧ wf.heap.size ≤ s_) ?_ ?_
   rotate_left
   · intro hCont
     refine two_ (i := 9) (j := 14) (Ni := some 57) (Nj := some 4) #[true, true, true, true, true, true, true, true, true, true, false, false, false, false, false, false, false] #[true, true, true, true, true, true, true, true, true, false, false, false, false, false, true, false, false] rfl rfl rfl rfl (by kernel_rfl) (by decide) (by decide) (fun K hK => ?_) (fun K hK => ?_)
     · skip
       refine goes_ Try.func32 (by kernel_rfl) rfl #[.agg #[.int .i64 (rd_T55 ms ix).f0.f0, .int .i64 (rd_T55 ms ix).f0.f1, .int .i64 (rd_T55 ms ix).f0.f2, .int .i64 (rd_T55 ms ix).f1.f0, .int .i64 (rd_T55 ms ix).f1.f1, .int .i64 (rd_T55 ms ix).f1.f2, .int .i64 (rd_T55 ms ix).f2, .int .i64 (rd_T55 ms ix).f3, .int .i64 (rd_T55 ms ix).f4]] (by rfl) rfl rfl (by simp only [List.map_toArray, List.map_cons, List.map_nil]; rfl) ?_
       with_reducible refine (controller_length.calls k (rd_T55 ms ix).f0.f0 (rd_T55 ms ix).f0.f1 (rd_T55 ms ix).f0.f2 (rd_T55 ms ix).f1.f0 (rd_T55 ms ix).f1.f1 (rd_T55 ms ix).f1.f2 (rd_T55 ms ix).f2 (rd_T55 ms ix).f3 (rd_T55 ms ix).f4 n _ HL.out).mono ?_
       rintro e w3 ⟨rfl, hb⟩
       refine ⟨_, rfl, ?_⟩
       refine hK.out _ _ ⟨below_step hHeld.1 hb, pw_cell_below (below_step hHeld.1 hb) hc5, pw_cell_below (below_step hHeld.1 hb) hm0, pw_cell_below (below_step hHeld.1 hb) hm1, pw_cell_below (below_step hHeld.1 hb) hm2, pw_cell_below (below_step hHeld.1 hb) hm3, pw_cell_below (below_step hHeld.1 hb) hm4, pw_cell_below (below_step hHeld.1 hb) hm5, pw_cell_below (below_step hHeld.1 hb) hm6, pw_cell_below (below_step hHeld.1 hb) hm7, pw_cell_below (below_step hHeld.1 hb) hm8⟩ (fun hHeld => ?_)
       clear hK K
       refine norm_ (a' := ?_) ?_ ?_
       rotate_left
       · show Act.put _ (some 57) _ = _
         simp only [Act.put, List.setIfInBounds_toArray, List.set_cons_zero, List.set_cons_succ, i64_w, i32_w]
         rfl
       refine two_ (i := 10) (j := 14) (Ni := some 58) (Nj := some 4) #[true, true, true, true, true, true, true, true, true, true, true, false, false, false, false, false, false] #[true, true, true, true, true, true, true, true, true, true, false, false, false, false, true, false, false] rfl rfl rfl rfl (by kernel_rfl) (by decide) (by decide) (fun K hK => ?_) (fun K hK => ?_)
       · skip
         refine goes_ Try.func31 (by kernel_rfl) rfl #[.agg #[.int .i64 (rd_T55 ms ix).f0.f0, .int .i64 (rd_T55 ms ix).f0.f1, .int .i64 (rd_T55 ms ix).f0.f2], .agg #[.int .i64 (rd_T55 ms ix).f1.f0, .int .i64 (rd_T55 ms ix).f1.f1, .int .i64 (rd_T55 ms ix).f1.f2], .int .i64 pt, .int .i64 n] (by rfl) rfl rfl (by simp only [List.map_toArray, List.map_cons, List.map_nil]; rfl) ?_
         with_reducible refine (Hand.pos_calls (rd_T55 ms ix).f0.f0 (rd_T55 ms ix).f0.f1 (rd_T55 ms ix).f0.f2 (rd_T55 ms ix).f1.f0 (rd_T55 ms ix).f1.f1 (rd_T55 ms ix).f1.f2 pt n x y z e _ HP.out).mono ?_
         rintro e3 w3 ⟨rfl, hb⟩
         refine ⟨_, rfl, ?_⟩
         refine hK.out _ _ ⟨below_step hHeld.1 hb, pw_cell_below (below_step hHeld.1 hb) hc5, pw_cell_below (below_step hHeld.1 hb) hm0, pw_cell_below (below_step hHeld.1 hb) hm1, pw_cell_below (below_step hHeld.1 hb) hm2, pw_cell_below (below_step hHeld.1 hb) hm3, pw_cell_below (below_step hHeld.1 hb) hm4, pw_cell_below (below_step hHeld.1 hb) hm5, pw_cell_below (below_step hHeld.1 hb) hm6, pw_cell_below (below_step hHeld.1 hb) hm7, pw_cell_below (below_step hHeld.1 hb) hm8⟩ (fun hHeld => ?_)
         clear hK K
         refine norm_ (a' := ?_) ?_ ?_
         rotate_left
         · show Act.put _ (some 58) _ = _
           simp only [Act.put, List.setIfInBounds_toArray, List.set_cons_zero, List.set_cons_succ, i64_w, i32_w]
           rfl
         refine pu 11 47 (bzz 17 4095) (by kernel_rfl) ?_
         refine pu 12 59 (bzz 17 8191) (by kernel_rfl) ?_
         refine pu 13 60 (bzz 17 16383) (by kernel_rfl) ?_
         refine one_ (i := 14) (N := some 4) (bzz 17 32767) rfl rfl (by kernel_rfl) (by decide) (fun K hK => ?_)
         refine box_value (cs := #[.int .i64 0, .int .i64 0, .int .i64 0]) (t := 42) (by rfl) rfl ?_ ?_
         · first | (go_simp; done) | (go_simp; rfl)
         intro gp hgp w3 hboxp hb
         have hgep : wf.heap.size ≤ gp := by rw [hgp]; exact hHeld.1.size
         clear hgp
         refine hK.out _ _ ⟨below_step hHeld.1 hb, pw_cell_below (below_step hHeld.1 hb) hc5, pw_cell_below (below_step hHeld.1 hb) hm0, pw_cell_below (below_step hHeld.1 hb) hm1, pw_cell_below (below_step hHeld.1 hb) hm2, pw_cell_below (below_step hHeld.1 hb) hm3, pw_cell_below (below_step hHeld.1 hb) hm4, pw_cell_below (below_step hHeld.1 hb) hm5, pw_cell_below (below_step hHeld.1 hb) hm6, pw_cell_below (below_step hHeld.1 hb) hm7, pw_cell_below (below_step hHeld.1 hb) hm8⟩ (fun hHeld => ?_)
         clear hK K
         refine norm_ (a' := ?_) ?_ ?_
         rotate_left
         · show Act.put _ (some 4) _ = _
           simp only [Act.put, List.setIfInBounds_toArray, List.set_cons_zero, List.set_cons_succ, i64_w, i32_w]
           rfl
         exact norm_ (by simp only [putAll, Act.put, List.setIfInBounds_toArray, List.set_cons_zero, List.set_cons_succ]) (hCont gp _ ⟨hHeld, hboxp, hgep⟩)
       · skip
         refine box_value (cs := #[.int .i64 0, .int .i64 0, .int .i64 0]) (t := 42) (by rfl) rfl ?_ ?_
         · first | (go_simp; done) | (go_simp; rfl)
         intro gp hgp w3 hboxp hb
         have hgep : wf.heap.size ≤ gp := by rw [hgp]; exact hHeld.1.size
         clear hgp
         refine hK.out _ _ ⟨below_step hHeld.1 hb, pw_cell_below (below_step hHeld.1 hb) hc5, pw_cell_below (below_step hHeld.1 hb) hm0, pw_cell_below (below_step hHeld.1 hb) hm1, pw_cell_below (below_step hHeld.1 hb) hm2, pw_cell_below (below_step hHeld.1 hb) hm3, pw_cell_below (below_step hHeld.1 hb) hm4, pw_cell_below (below_step hHeld.1 hb) hm5, pw_cell_below (below_step hHeld.1 hb) hm6, pw_cell_below (below_step hHeld.1 hb) hm7, pw_cell_below (below_step hHeld.1 hb) hm8⟩ (fun hHeld => ?_)
         clear hK K
         refine norm_ (a' := ?_) ?_ ?_
         rotate_left
         · show Act.put _ (some 4) _ = _
           simp only [Act.put, List.setIfInBounds_toArray, List.set_cons_zero, List.set_cons_succ, i64_w, i32_w]
           rfl
         refine one_ (i := 10) (N := some 58) (bzz 17 18431) rfl rfl (by kernel_rfl) (by decide) (fun K hK => ?_)
         refine goes_ Try.func31 (by kernel_rfl) rfl #[.agg #[.int .i64 (rd_T55 ms ix).f0.f0, .int .i64 (rd_T55 ms ix).f0.f1, .int .i64 (rd_T55 ms ix).f0.f2], .agg #[.int .i64 (rd_T55 ms ix).f1.f0, .int .i64 (rd_T55 ms ix).f1.f1, .int .i64 (rd_T55 ms ix).f1.f2], .int .i64 pt, .int .i64 n] (by rfl) rfl rfl (by simp only [List.map_toArray, List.map_cons, List.map_nil]; rfl) ?_
         with_reducible refine (Hand.pos_calls (rd_T55 ms ix).f0.f0 (rd_T55 ms ix).f0.f1 (rd_T55 ms ix).f0.f2 (rd_T55 ms ix).f1.f0 (rd_T55 ms ix).f1.f1 (rd_T55 ms ix).f1.f2 pt n x y z e _ HP.out).mono ?_
         rintro e3 w3 ⟨rfl, hb⟩
         refine ⟨_, rfl, ?_⟩
         have hboxp := blk_below hboxp hb
         refine hK.out _ _ ⟨below_step hHeld.1 hb, pw_cell_below (below_step hHeld.1 hb) hc5, pw_cell_below (below_step hHeld.1 hb) hm0, pw_cell_below (below_step hHeld.1 hb) hm1, pw_cell_below (below_step hHeld.1 hb) hm2, pw_cell_below (below_step hHeld.1 hb) hm3, pw_cell_below (below_step hHeld.1 hb) hm4, pw_cell_below (below_step hHeld.1 hb) hm5, pw_cell_below (below_step hHeld.1 hb) hm6, pw_cell_below (below_step hHeld.1 hb) hm7, pw_cell_below (below_step hHeld.1 hb) hm8⟩ (fun hHeld => ?_)
         clear hK K
         refine norm_ (a' := ?_) ?_ ?_
         rotate_left
         · show Act.put _ (some 58) _ = _
           simp only [Act.put, List.setIfInBounds_toArray, List.set_cons_zero, List.set_cons_succ, i64_w, i32_w]
           rfl
         refine pu 11 47 (bzz 17 20479) (by kernel_rfl) ?_
         refine pu 12 59 (bzz 17 24575) (by kernel_rfl) ?_
         refine pu 13 60 (bzz 17 32767) (by kernel_rfl) ?_
         exact norm_ (by simp only [putAll, Act.put, List.setIfInBounds_toArray, List.set_cons_zero, List.set_cons_succ]) (hCont gp _ ⟨hHeld, hboxp, hgep⟩)
     · skip
       refine box_value (cs := #[.int .i64 0, .int .i64 0, .int .i64 0]) (t := 42) (by rfl) rfl ?_ ?_
       · first | (go_simp; done) | (go_simp; rfl)
       intro gp hgp w3 hboxp hb
       have hgep : wf.heap.size ≤ gp := by rw [hgp]; exact hHeld.1.size
       clear hgp
       refine hK.out _ _ ⟨below_step hHeld.1 hb, pw_cell_below (below_step hHeld.1 hb) hc5, pw_cell_below (below_step hHeld.1 hb) hm0, pw_cell_below (below_step hHeld.1 hb) hm1, pw_cell_below (below_step hHeld.1 hb) hm2, pw_cell_below (below_step hHeld.1 hb) hm3, pw_cell_below (below_step hHeld.1 hb) hm4, pw_cell_below (below_step hHeld.1 hb) hm5, pw_cell_below (below_step hHeld.1 hb) hm6, pw_cell_below (below_step hHeld.1 hb) hm7, pw_cell_below (below_step hHeld.1 hb) hm8⟩ (fun hHeld => ?_)
       clear hK K
       refine norm_ (a' := ?_) ?_ ?_
       rotate_left
       · show Act.put _ (some 4) _ = _
         simp only [Act.put, List.setIfInBounds_toArray, List.set_cons_zero, List.set_cons_succ, i64_w, i32_w]
         rfl
       refine one_ (i := 9) (N := some 57) (bzz 17 17407) rfl rfl (by kernel_rfl) (by decide) (fun K hK => ?_)
       refine goes_ Try.func32 (by kernel_rfl) rfl #[.agg #[.int .i64 (rd_T55 ms ix).f0.f0, .int .i64 (rd_T55 ms ix).f0.f1, .int .i64 (rd_T55 ms ix).f0.f2, .int .i64 (rd_T55 ms ix).f1.f0, .int .i64 (rd_T55 ms ix).f1.f1, .int .i64 (rd_T55 ms ix).f1.f2, .int .i64 (rd_T55 ms ix).f2, .int .i64 (rd_T55 ms ix).f3, .int .i64 (rd_T55 ms ix).f4]] (by rfl) rfl rfl (by simp only [List.map_toArray, List.map_cons, List.map_nil]; rfl) ?_
       with_reducible refine (controller_length.calls k (rd_T55 ms ix).f0.f0 (rd_T55 ms ix).f0.f1 (rd_T55 ms ix).f0.f2 (rd_T55 ms ix).f1.f0 (rd_T55 ms ix).f1.f1 (rd_T55 ms ix).f1.f2 (rd_T55 ms ix).f2 (rd_T55 ms ix).f3 (rd_T55 ms ix).f4 n _ HL.out).mono ?_
       rintro e w3 ⟨rfl, hb⟩
       refine ⟨_, rfl, ?_⟩
       have hboxp := blk_below hboxp hb
       refine hK.out _ _ ⟨below_step hHeld.1 hb, pw_cell_below (below_step hHeld.1 hb) hc5, pw_cell_below (below_step hHeld.1 hb) hm0, pw_cell_below (below_step hHeld.1 hb) hm1, pw_cell_below (below_step hHeld.1 hb) hm2, pw_cell_below (below_step hHeld.1 hb) hm3, pw_cell_below (below_step hHeld.1 hb) hm4, pw_cell_below (below_step hHeld.1 hb) hm5, pw_cell_below (below_step hHeld.1 hb) hm6, pw_cell_below (below_step hHeld.1 hb) hm7, pw_cell_below (below_step hHeld.1 hb) hm8⟩ (fun hHeld => ?_)
       clear hK K
       refine norm_ (a' := ?_) ?_ ?_
       rotate_left
       · show Act.put _ (some 57) _ = _
         simp only [Act.put, List.setIfInBounds_toArray, List.set_cons_zero, List.set_cons_succ, i64_w, i32_w]
         rfl
       refine one_ (i := 10) (N := some 58) (bzz 17 18431) rfl rfl (by kernel_rfl) (by decide) (fun K hK => ?_)
       refine goes_ Try.func31 (by kernel_rfl) rfl #[.agg #[.int .i64 (rd_T55 ms ix).f0.f0, .int .i64 (rd_T55 ms ix).f0.f1, .int .i64 (rd_T55 ms ix).f0.f2], .agg #[.int .i64 (rd_T55 ms ix).f1.f0, .int .i64 (rd_T55 ms ix).f1.f1, .int .i64 (rd_T55 ms ix).f1.f2], .int .i64 pt, .int .i64 n] (by rfl) rfl rfl (by simp only [List.map_toArray, List.map_cons, List.map_nil]; rfl) ?_
       with_reducible refine (Hand.pos_calls (rd_T55 ms ix).f0.f0 (rd_T55 ms ix).f0.f1 (rd_T55 ms ix).f0.f2 (rd_T55 ms ix).f1.f0 (rd_T55 ms ix).f1.f1 (rd_T55 ms ix).f1.f2 pt n x y z e _ HP.out).mono ?_
       rintro e3 w3 ⟨rfl, hb⟩
       refine ⟨_, rfl, ?_⟩
       have hboxp := blk_below hboxp hb
       refine hK.out _ _ ⟨below_step hHeld.1 hb, pw_cell_below (below_step hHeld.1 hb) hc5, pw_cell_below (below_step hHeld.1 hb) hm0, pw_cell_below (below_step hHeld.1 hb) hm1, pw_cell_below (below_step hHeld.1 hb) hm2, pw_cell_below (below_step hHeld.1 hb) hm3, pw_cell_below (below_step hHeld.1 hb) hm4, pw_cell_below (below_step hHeld.1 hb) hm5, pw_cell_below (below_step hHeld.1 hb) hm6, pw_cell_below (below_step hHeld.1 hb) hm7, pw_cell_below (below_step hHeld.1 hb) hm8⟩ (fun hHeld => ?_)
       clear hK K
       refine norm_ (a' := ?_) ?_ ?_
       rotate_left
       · show Act.put _ (some 58) _ = _
         simp only [Act.put, List.setIfInBounds_toArray, List.set_cons_zero, List.set_cons_succ, i64_w, i32_w]
         rfl
       refine pu 11 47 (bzz 17 20479) (by kernel_rfl) ?_
       refine pu 12 59 (bzz 17 24575) (by kernel_rfl) ?_
       refine pu 13 60 (bzz 17 32767) (by kernel_rfl) ?_
       exact norm_ (by simp only [putAll, Act.put, List.setIfInBounds_toArray, List.set_cons_zero, List.set_cons_succ]) (hCont gp _ ⟨hHeld, hboxp, hgep⟩)
   rintro gp wp ⟨hHeld, hboxp, hgep⟩
   have BKp := Aside0.mk hboxp
   have HGp : Aside0 (w.heap.size ≤ gp) := ⟨Nat.le_trans HBf.out.size hgep⟩
   have hqp : q ≠ gp := Nat.ne_of_lt (Nat.lt_of_lt_of_le (blk_lt BKQf.out) hgep)
   have HBp := Aside0.mk hHeld.1
   clear hboxp hgep
   have hp0 : wp.cell? ⟨gp, 0, none⟩ = some (.int .i64 0) := (blk_cell BKp.out 0).trans rfl
   have hp1 : wp.cell? ⟨gp, 1, none⟩ = some (.int .i64 0) := (blk_cell BKp.out 1).trans rfl
   have hp2 : wp.cell? ⟨gp, 2, none⟩ = some (.int .i64 0) := (blk_cell BKp.out 2).trans rfl
   have hpf0 := blk_frozen BKp.out 0
   have hpf1 := blk_frozen BKp.out 1
   have hpf2 := blk_frozen BKp.out 2
   refine norm_ (a' := ?_) ?_ ?_
   rotate_left
   · simp only [putAll, Act.put, List.setIfInBounds_toArray, List.set_cons_zero, List.set_cons_succ]
     rfl
   refine last_ (i := 15) (N := none) (bzz 17 65535) rfl rfl (by kernel_rfl) (by decide) (fun K hK => ?_)
   refine skip_ (w1 := ?_) (by rfl) rfl ?_ ?_
   rotate_left
   · go_simp
     rfl
   refine hK.out _ _ ?_
   clear hK K
   refine pu 16 5 (bzz 17 131071) (by kernel_rfl) ?_
   refine done_ (by kernel_rfl) ?_
   generalize hwh : World.setCell _ _ _ = wh
   have BKP : Aside0 (wh.heap[gp]? = some (.cells #[.int .i64 x, .int .i64 y, .int .i64 z] 42 (0, 0))) := ⟨by rw [← hwh]; exact (by refine blk_put (cs := #[.int .i64 x, .int .i64 y, .int .i64 0]) ?_ 2 _ rfl; refine blk_put (cs := #[.int .i64 x, .int .i64 0, .int .i64 0]) ?_ 1 _ rfl; refine blk_put (cs := #[.int .i64 0, .int .i64 0, .int .i64 0]) ?_ 0 _ rfl; exact BKp.out)⟩
   have BKQh : Aside0 (wh.heap[q]? = some (.cells #[.int .i64 0, .int .i64 0, .int .i64 0] 42 (0, 0))) := ⟨by rw [← hwh]; exact (by refine blk_far ?_ hqp _; refine blk_far ?_ hqp _; refine blk_far ?_ hqp _; exact (blk_below BKQf.out HBp.out))⟩
   have HBh : Aside0 (Below w.heap.size w wh) := ⟨by rw [← hwh]; exact (((below_step HBf.out HBp.out).setCell HGp.out _).setCell HGp.out _).setCell HGp.out _⟩
   clear hwh hHeld BKp HBp BKQf HBf BKM BKG hc5 hm0 hm1 hm2 hm3 hm4 hm5 hm6 hm7 hm8 hp0 hp1 hp2 hpf0 hpf1 hpf2
   have hp0 : wh.cell? ⟨gp, 0, none⟩ = some (.int .i64 x) := (blk_cell BKP.out 0).trans rfl
   have hp1 : wh.cell? ⟨gp, 1, none⟩ = some (.int .i64 y) := (blk_cell BKP.out 1).trans rfl
   have hp2 : wh.cell? ⟨gp, 2, none⟩ = some (.int .i64 z) := (blk_cell BKP.out 2).trans rfl
   have hq0 : wh.cell? ⟨q, 0, none⟩ = some (.int .i64 0) := (blk_cell BKQh.out 0).trans rfl
   have hq1 : wh.cell? ⟨q, 1, none⟩ = some (.int .i64 0) := (blk_cell BKQh.out 1).trans rfl
   have hq2 : wh.cell? ⟨q, 2, none⟩ = some (.int .i64 0) := (blk_cell BKQh.out 2).trans rfl
   have hqf0 := blk_frozen BKQh.out 0
   have hqf1 := blk_frozen BKQh.out 1
   have hqf2 := blk_frozen BKQh.out 2
   go_wp2
   refine bodyPost_ret (results_c1 rfl _ _ q 42 #[.int .i64 x, .int .i64 y, .int .i64 z] (0, 0) _ rfl (by (with_reducible repeat (first | refine blk_drewN ?_ _ | refine blk_drew ?_ | refine blk_alloc ?_ _)); refine blk_put (cs := #[.int .i64 x, .int .i64 y, .int .i64 0]) ?_ 2 _ rfl; (with_reducible repeat (first | refine blk_drewN ?_ _ | refine blk_drew ?_ | refine blk_alloc ?_ _)); refine blk_put (cs := #[.int .i64 x, .int .i64 0, .int .i64 0]) ?_ 1 _ rfl; (with_reducible repeat (first | refine blk_drewN ?_ _ | refine blk_drew ?_ | refine blk_alloc ?_ _)); refine blk_put (cs := #[.int .i64 0, .int .i64 0, .int .i64 0]) ?_ 0 _ rfl; (with_reducible repeat (first | refine blk_drewN ?_ _ | refine blk_drew ?_ | refine blk_alloc ?_ _)); exact BKQh.out) hu42 rfl (by kernel_rfl)) rfl ?_
   refine ⟨rfl, ?_⟩
   have hge : w.heap.size ≤ q := HGE.out
   exact ((HBh.out.setCell hge _).setCell hge _).setCell hge _
end Go.Proofs.Ytmaegpblaihepaa.F
