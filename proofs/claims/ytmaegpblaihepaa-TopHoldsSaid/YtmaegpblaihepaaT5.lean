/- piece, by a contract. -/
import Derived.Test.YtmaegpblaihepaaWc
import Derived.Test.YtmaegpblaihepaaT4
import Derived.Test.YtmaegpblaihepaaFa
namespace Go.Proofs.Ytmaegpblaihepaa.F
open Go.RowKit Go.Proofs.YtmaegpblaihepaaW.PrintWords Go.Proofs.YtmaegpblaihepaaW.PrintLast Go.Proofs.YtmaegpblaihepaaW.PrintMore
attribute [local go_sem] max2_int min2_int max_two min_two max_three min_three max_four min_four
set_option linter.unusedVariables false
set_option linter.unusedSimpArgs false
attribute [local go_sem high] eqA42
def PieceP (s : CS) (m : S55) (b : Bool) : Prop := (s.ix = (s.ms.length : Int) ∧ m = z55 ∧ b = false) ∨ (0 ≤ s.ix ∧ s.ix < (s.ms.length : Int) ∧ ∃ x y z, PosP s x y z ∧ m = ⟨⟨s.lx, s.ly, s.lz⟩, ⟨x, y, z⟩, (rd_T55 s.ms s.ix).f2, (rd_T55 s.ms s.ix).f3, (rd_T55 s.ms s.ix).f4⟩ ∧ b = !(s.lx == x && (s.ly == y && s.lz == z)))
set_option maxRecDepth 100000 in
set_option maxHeartbeats 8000000 in
theorem controller_piece.calls (m : S55) (b : Bool) {B g : Nat} {s : CS} {w : World} (hs : Ctl B w g s) (hp : PieceP s m b) : Calls Try.prog 33 #[.pointer (some ⟨g, 0, none⟩)] w fun e w' => e = .returned (.tuple #[.agg #[.int .i64 m.f0.f0, .int .i64 m.f0.f1, .int .i64 m.f0.f2, .int .i64 m.f1.f0, .int .i64 m.f1.f1, .int .i64 m.f1.f2, .int .i64 m.f2, .int .i64 m.f3, .int .i64 m.f4], .bool b]) ∧ Below w.heap.size w w' := by
 unfold PieceP at hp
 obtain ⟨ms, sp, ac, je, ix, pt, pl, at_, bra, held, brk, pcs, lx, ly, lz⟩ := s
 dsimp only at hp
 obtain ⟨hBg, AM, cM, AP, cP, AQ, cQ, hbox, hm1, hp1, hq1, hM, hP, hQ⟩ := hs.open_
 dsimp only at hbox hm1 hp1 hq1 hM hP hQ
 have HS := Aside0.mk hs
 have BKg := Aside0.mk hbox
 have RM := Aside0.mk hM
 have RP := Aside0.mk hP
 have RQ := Aside0.mk hQ
 have GEg := Aside0.mk hBg
 have HM1 := Aside0.mk hm1
 have HP1 := Aside0.mk hp1
 have HQ1 := Aside0.mk hq1
 clear hs hbox hM hP hQ hBg hm1 hp1 hq1
 have hc0 : w.cell? ⟨g, 0, none⟩ = some (.slice AM ms.length cM) := (blk_cell BKg.out 0).trans rfl
 have hc4 : w.cell? ⟨g, 4, none⟩ = some (.int .i64 ix) := (blk_cell BKg.out 4).trans rfl
 have hc12 : w.cell? ⟨g, 12, none⟩ = some (.int .i64 lx) := (blk_cell BKg.out 12).trans rfl
 have hc13 : w.cell? ⟨g, 13, none⟩ = some (.int .i64 ly) := (blk_cell BKg.out 13).trans rfl
 have hc14 : w.cell? ⟨g, 14, none⟩ = some (.int .i64 lz) := (blk_cell BKg.out 14).trans rfl
 have hu42 := Try.underlying42
 have hu55 := Try.underlying55
 have hu59 := Try.underlying59
 rcases hp with ⟨hi, rfl, rfl⟩ | ⟨h0, h1, x, y, z, hp, rfl, rfl⟩
 · have hib : (ix == (ms.length : Int)) = true := beq_iff_eq.mpr hi
   clear hi
   dsimp only [z55, z42]
   go_enter Try.func33, Try.ntmps33
   go_upto_region 1 with (first | ((with_reducible refine gate_dst (N := 2) rfl ?_); refine box_event ?hg (N := 2) ?hd (cs := #[.int .i64 0, .int .i64 0, .int .i64 0, .int .i64 0, .int .i64 0, .int .i64 0, .int .i64 0, .int .i64 0, .int .i64 0]) (t := 55) ?hr ?_; (case hd => rfl); (case hg => rfl); (case hr => first | (go_simp; done) | (go_simp; rfl)); intro q hg wq hbox hb; have BKQ := Aside0.mk hbox; have HBQ := Aside0.mk hb; have hqg : g ≠ q := (by rw [hg]; exact Nat.ne_of_lt (blk_lt BKg.out)); have HGE : Aside0 (w.heap.size ≤ q) := ⟨(by rw [hg]; exact Nat.le_refl _)⟩; clear hg hbox hb))
   replace hc0 := pw_cell_below HBQ.out hc0
   replace hc4 := pw_cell_below HBQ.out hc4
   refine start_ (n := 10) (S := fun w' => Below wq.heap.size wq w' ∧ w'.cell? ⟨g, 0, none⟩ = some (.slice AM ms.length cM) ∧ w'.cell? ⟨g, 4, none⟩ = some (.int .i64 ix)) (ds := []) #[false, false, false, false, false, false, false, false, false, false] (by kernel_rfl) rfl rfl ⟨below_drew (Below.refl _ _), pw_cell_below (below_drew (Below.refl _ _)) hc0, pw_cell_below (below_drew (Below.refl _ _)) hc4⟩ (fun hHeld => ?_)
   generalize World.drew _ = wd at hHeld ⊢
   refine pu 0 5 (bzz 10 1) (by kernel_rfl) ?_
   refine pu 1 6 (bzz 10 3) (by kernel_rfl) ?_
   refine pu 2 7 (bzz 10 7) (by kernel_rfl) ?_
   refine pu 4 9 (bzz 10 23) (by kernel_rfl) ?_
   refine pu 5 10 (bzz 10 55) (by kernel_rfl) ?_
   refine pu 6 11 (bzz 10 119) (by kernel_rfl) ?_
   refine ta 3 8 (bzz 10 127) (by kernel_rfl) hHeld ?_
   refine ta 7 12 (bzz 10 255) (by kernel_rfl) hHeld ?_
   refine pu 8 13 (bzz 10 511) (by kernel_rfl) ?_
   refine pu 9 14 (bzz 10 1023) (by kernel_rfl) ?_
   refine done_ (by kernel_rfl) ?_
   have HBn := Aside0.mk hHeld.1
   replace hc0 := hHeld.2.1
   replace hc4 := hHeld.2.2
   clear hHeld
   replace BKQ := Aside0.mk (blk_below BKQ.out HBn.out)
   replace HBQ := Aside0.mk (below_step HBQ.out HBn.out)
   clear HBn
   have hq0 : wd.cell? ⟨q, 0, none⟩ = some (.int .i64 0) := (blk_cell BKQ.out 0).trans rfl
   have hq1 : wd.cell? ⟨q, 1, none⟩ = some (.int .i64 0) := (blk_cell BKQ.out 1).trans rfl
   have hq2 : wd.cell? ⟨q, 2, none⟩ = some (.int .i64 0) := (blk_cell BKQ.out 2).trans rfl
   have hq3 : wd.cell? ⟨q, 3, none⟩ = some (.int .i64 0) := (blk_cell BKQ.out 3).trans rfl
   have hq4 : wd.cell? ⟨q, 4, none⟩ = some (.int .i64 0) := (blk_cell BKQ.out 4).trans rfl
   have hq5 : wd.cell? ⟨q, 5, none⟩ = some (.int .i64 0) := (blk_cell BKQ.out 5).trans rfl
   have hq6 : wd.cell? ⟨q, 6, none⟩ = some (.int .i64 0) := (blk_cell BKQ.out 6).trans rfl
   have hq7 : wd.cell? ⟨q, 7, none⟩ = some (.int .i64 0) := (blk_cell BKQ.out 7).trans rfl
   have hq8 : wd.cell? ⟨q, 8, none⟩ = some (.int .i64 0) := (blk_cell BKQ.out 8).trans rfl
   have hqf0 := blk_frozen BKQ.out 0
   have hqf1 := blk_frozen BKQ.out 1
   have hqf2 := blk_frozen BKQ.out 2
   have hqf3 := blk_frozen BKQ.out 3
   have hqf4 := blk_frozen BKQ.out 4
   have hqf5 := blk_frozen BKQ.out 5
   have hqf6 := blk_frozen BKQ.out 6
   have hqf7 := blk_frozen BKQ.out 7
   have hqf8 := blk_frozen BKQ.out 8
   go_wp2
   refine bodyPost_ret (results_ct rfl _ _ q 55 #[.int .i64 0, .int .i64 0, .int .i64 0, .int .i64 0, .int .i64 0, .int .i64 0, .int .i64 0, .int .i64 0, .int .i64 0] (0, 0) _ rfl (by refine blk_put (cs := #[.int .i64 0, .int .i64 0, .int .i64 0, .int .i64 0, .int .i64 0, .int .i64 0, .int .i64 0, .int .i64 0, .int .i64 0]) ?_ 8 _ rfl; refine blk_put (cs := #[.int .i64 0, .int .i64 0, .int .i64 0, .int .i64 0, .int .i64 0, .int .i64 0, .int .i64 0, .int .i64 0, .int .i64 0]) ?_ 7 _ rfl; refine blk_put (cs := #[.int .i64 0, .int .i64 0, .int .i64 0, .int .i64 0, .int .i64 0, .int .i64 0, .int .i64 0, .int .i64 0, .int .i64 0]) ?_ 6 _ rfl; refine blk_put (cs := #[.int .i64 0, .int .i64 0, .int .i64 0, .int .i64 0, .int .i64 0, .int .i64 0, .int .i64 0, .int .i64 0, .int .i64 0]) ?_ 5 _ rfl; refine blk_put (cs := #[.int .i64 0, .int .i64 0, .int .i64 0, .int .i64 0, .int .i64 0, .int .i64 0, .int .i64 0, .int .i64 0, .int .i64 0]) ?_ 4 _ rfl; refine blk_put (cs := #[.int .i64 0, .int .i64 0, .int .i64 0, .int .i64 0, .int .i64 0, .int .i64 0, .int .i64 0, .int .i64 0, .int .i64 0]) ?_ 3 _ rfl; refine blk_put (cs := #[.int .i64 0, .int .i64 0, .int .i64 0, .int .i64 0, .int .i64 0, .int .i64 0, .int .i64 0, .int .i64 0, .int .i64 0]) ?_ 2 _ rfl; refine blk_put (cs := #[.int .i64 0, .int .i64 0, .int .i64 0, .int .i64 0, .int .i64 0, .int .i64 0, .int .i64 0, .int .i64 0, .int .i64 0]) ?_ 1 _ rfl; refine blk_put (cs := #[.int .i64 0, .int .i64 0, .int .i64 0, .int .i64 0, .int .i64 0, .int .i64 0, .int .i64 0, .int .i64 0, .int .i64 0]) ?_ 0 _ rfl; exact BKQ.out) hu55 rfl (by kernel_rfl)) rfl ?_
   refine ⟨rfl, ?_⟩
   have hge : w.heap.size ≤ q := HGE.out
   exact (((((((((HBQ.out.setCell hge _).setCell hge _).setCell hge _).setCell hge _).setCell hge _).setCell hge _).setCell hge _).setCell hge _).setCell hge _)
 · have hib : (ix == (ms.length : Int)) = false := beq_eq_false_iff_ne.mpr (by omega)
   obtain ⟨ad, ea_, hx0, hx1, hx2, hx3, hx4, hx5, hx6, hx7, hx8⟩ := at_T55 (Kd.R_reads' RM.out).2.2 ix h0 h1
   subst ea_
   replace h0 := eq_true h0
   replace h1 := eq_true h1
   have HP := Aside0.mk hp
   clear hp
   dsimp only
   go_enter Try.func33, Try.ntmps33
   go_upto_region 1 with (first | ((with_reducible refine gate_dst (N := 2) rfl ?_); refine box_event ?hg (N := 2) ?hd (cs := #[.int .i64 0, .int .i64 0, .int .i64 0, .int .i64 0, .int .i64 0, .int .i64 0, .int .i64 0, .int .i64 0, .int .i64 0]) (t := 55) ?hr ?_; (case hd => rfl); (case hg => rfl); (case hr => first | (go_simp; done) | (go_simp; rfl)); intro q hg wq hbox hb; have BKQ := Aside0.mk hbox; have HBQ := Aside0.mk hb; have hqg : g ≠ q := (by rw [hg]; exact Nat.ne_of_lt (blk_lt BKg.out)); have HGE : Aside0 (w.heap.size ≤ q) := ⟨(by rw [hg]; exact Nat.le_refl _)⟩; clear hg hbox hb))
   replace hc0 := pw_cell_below HBQ.out hc0
   replace hc4 := pw_cell_below HBQ.out hc4
   replace hc12 := pw_cell_below HBQ.out hc12
   replace hc13 := pw_cell_below HBQ.out hc13
   replace hc14 := pw_cell_below HBQ.out hc14
   replace hx0 := pw_cell_below HBQ.out hx0
   replace hx1 := pw_cell_below HBQ.out hx1
   replace hx2 := pw_cell_below HBQ.out hx2
   replace hx3 := pw_cell_below HBQ.out hx3
   replace hx4 := pw_cell_below HBQ.out hx4
   replace hx5 := pw_cell_below HBQ.out hx5
   replace hx6 := pw_cell_below HBQ.out hx6
   replace hx7 := pw_cell_below HBQ.out hx7
   replace hx8 := pw_cell_below HBQ.out hx8
   refine start_ (n := 10) (S := fun w' => Below wq.heap.size wq w' ∧ w'.cell? ⟨g, 0, none⟩ = some (.slice (some ad) ms.length cM) ∧ w'.cell? ⟨g, 4, none⟩ = some (.int .i64 ix)) (ds := []) #[false, false, false, false, false, false, false, false, false, false] (by kernel_rfl) rfl rfl ⟨below_drew (Below.refl _ _), pw_cell_below (below_drew (Below.refl _ _)) hc0, pw_cell_below (below_drew (Below.refl _ _)) hc4⟩ (fun hHeld => ?_)
   generalize World.drew _ = wd at hHeld ⊢
   refine pu 0 5 (bzz 10 1) (by kernel_rfl) ?_
   refine pu 1 6 (bzz 10 3) (by kernel_rfl) ?_
   refine pu 2 7 (bzz 10 7) (by kernel_rfl) ?_
   refine pu 4 9 (bzz 10 23) (by kernel_rfl) ?_
   refine pu 5 10 (bzz 10 55) (by kernel_rfl) ?_
   refine pu 6 11 (bzz 10 119) (by kernel_rfl) ?_
   refine ta 3 8 (bzz 10 127) (by kernel_rfl) hHeld ?_
   refine ta 7 12 (bzz 10 255) (by kernel_rfl) hHeld ?_
   refine pu 8 13 (bzz 10 511) (by kernel_rfl) ?_
   refine pu 9 14 (bzz 10 1023) (by kernel_rfl) ?_
   refine done_ (by kernel_rfl) ?_
   have HBn := Aside0.mk hHeld.1
   replace hc0 := hHeld.2.1
   replace hc4 := hHeld.2.2
   clear hHeld
   replace BKQ := Aside0.mk (blk_below BKQ.out HBn.out)
   replace HBQ := Aside0.mk (below_step HBQ.out HBn.out)
   replace hc12 := pw_cell_below HBn.out hc12
   replace hc13 := pw_cell_below HBn.out hc13
   replace hc14 := pw_cell_below HBn.out hc14
   replace hx0 := pw_cell_below HBn.out hx0
   replace hx1 := pw_cell_below HBn.out hx1
   replace hx2 := pw_cell_below HBn.out hx2
   replace hx3 := pw_cell_below HBn.out hx3
   replace hx4 := pw_cell_below HBn.out hx4
   replace hx5 := pw_cell_below HBn.out hx5
   replace hx6 := pw_cell_below HBn.out hx6
   replace hx7 := pw_cell_below HBn.out hx7
   replace hx8 := pw_cell_below HBn.out hx8
   clear HBn
   go_upto_region 3 with (fail)
   refine start_ (n := 12) (S := fun w' => Below wd.heap.size wd w' ∧ w'.cell? ⟨g, 0, none⟩ = some (.slice (some ad) ms.length cM) ∧ w'.cell? ⟨g, 4, none⟩ = some (.int .i64 ix) ∧ w'.cell? (ad.add (ix.toNat * 9)) = some (.int .i64 (rd_T55 ms ix).f0.f0) ∧ w'.cell? ⟨(ad.add (ix.toNat * 9)).block, (ad.add (ix.toNat * 9)).off + 1, none⟩ = some (.int .i64 (rd_T55 ms ix).f0.f1) ∧ w'.cell? ⟨(ad.add (ix.toNat * 9)).block, (ad.add (ix.toNat * 9)).off + 2, none⟩ = some (.int .i64 (rd_T55 ms ix).f0.f2) ∧ w'.cell? ⟨(ad.add (ix.toNat * 9)).block, (ad.add (ix.toNat * 9)).off + 3, none⟩ = some (.int .i64 (rd_T55 ms ix).f1.f0) ∧ w'.cell? ⟨(ad.add (ix.toNat * 9)).block, (ad.add (ix.toNat * 9)).off + 4, none⟩ = some (.int .i64 (rd_T55 ms ix).f1.f1) ∧ w'.cell? ⟨(ad.add (ix.toNat * 9)).block, (ad.add (ix.toNat * 9)).off + 5, none⟩ = some (.int .i64 (rd_T55 ms ix).f1.f2) ∧ w'.cell? ⟨(ad.add (ix.toNat * 9)).block, (ad.add (ix.toNat * 9)).off + 6, none⟩ = some (.int .i64 (rd_T55 ms ix).f2) ∧ w'.cell? ⟨(ad.add (ix.toNat * 9)).block, (ad.add (ix.toNat * 9)).off + 7, none⟩ = some (.int .i64 (rd_T55 ms ix).f3) ∧ w'.cell? ⟨(ad.add (ix.toNat * 9)).block, (ad.add (ix.toNat * 9)).off + 8, none⟩ = some (.int .i64 (rd_T55 ms ix).f4)) (ds := [11]) #[false, false, false, false, false, false, false, false, false, false, false, false] (by kernel_rfl) rfl rfl ⟨below_drew (Below.refl _ _), pw_cell_below (below_drew (Below.refl _ _)) hc0, pw_cell_below (below_drew (Below.refl _ _)) hc4, pw_cell_below (below_drew (Below.refl _ _)) hx0, pw_cell_below (below_drew (Below.refl _ _)) hx1, pw_cell_below (below_drew (Below.refl _ _)) hx2, pw_cell_below (below_drew (Below.refl _ _)) hx3, pw_cell_below (below_drew (Below.refl _ _)) hx4, pw_cell_below (below_drew (Below.refl _ _)) hx5, pw_cell_below (below_drew (Below.refl _ _)) hx6, pw_cell_below (below_drew (Below.refl _ _)) hx7, pw_cell_below (below_drew (Below.refl _ _)) hx8⟩ (fun hHeld => ?_)
   generalize World.drew _ = wd2 at hHeld ⊢
   refine pu 0 16 (bzz 12 1) (by kernel_rfl) ?_
   refine pu 1 17 (bzz 12 3) (by kernel_rfl) ?_
   refine pu 2 18 (bzz 12 7) (by kernel_rfl) ?_
   refine pu 4 20 (bzz 12 23) (by kernel_rfl) ?_
   refine pu 5 21 (bzz 12 55) (by kernel_rfl) ?_
   refine pu 6 22 (bzz 12 119) (by kernel_rfl) ?_
   refine ta 3 19 (bzz 12 127) (by kernel_rfl) hHeld ?_
   refine ta 7 23 (bzz 12 255) (by kernel_rfl) hHeld ?_
   refine pu 8 24 (bzz 12 511) (by kernel_rfl) ?_
   refine ta 9 25 (bzz 12 1023) (by kernel_rfl) hHeld ?_
   refine one_ (i := 10) (N := some 4) (bzz 12 2047) rfl rfl (by kernel_rfl) (by decide) (fun K hK => ?_)
   refine box_value (cs := #[.int .i64 0, .int .i64 0, .int .i64 0, .int .i64 0, .int .i64 0, .int .i64 0, .int .i64 0, .int .i64 0, .int .i64 0]) (t := 55) (by rfl) rfl ?_ ?_
   · first | (go_simp; done) | (go_simp; rfl)
   intro m hm wm hboxm hb
   have BKm := Aside0.mk hboxm
   have HBm := Aside0.mk (below_step hHeld.1 hb)
   have hgm : g ≠ m := by rw [hm]; exact Nat.ne_of_lt (blk_lt (blk_below BKg.out (below_step HBQ.out hHeld.1)))
   have hqm : q ≠ m := by rw [hm]; exact Nat.ne_of_lt (blk_lt (blk_below BKQ.out hHeld.1))
   have HGm : Aside0 (w.heap.size ≤ m) := ⟨by rw [hm]; exact (below_step HBQ.out hHeld.1).size⟩
   clear hboxm hm
   have hm0 : wm.cell? ⟨m, 0, none⟩ = some (.int .i64 0) := (blk_cell BKm.out 0).trans rfl
   have hm1 : wm.cell? ⟨m, 1, none⟩ = some (.int .i64 0) := (blk_cell BKm.out 1).trans rfl
   have hm2 : wm.cell? ⟨m, 2, none⟩ = some (.int .i64 0) := (blk_cell BKm.out 2).trans rfl
   have hm3 : wm.cell? ⟨m, 3, none⟩ = some (.int .i64 0) := (blk_cell BKm.out 3).trans rfl
   have hm4 : wm.cell? ⟨m, 4, none⟩ = some (.int .i64 0) := (blk_cell BKm.out 4).trans rfl
   have hm5 : wm.cell? ⟨m, 5, none⟩ = some (.int .i64 0) := (blk_cell BKm.out 5).trans rfl
   have hm6 : wm.cell? ⟨m, 6, none⟩ = some (.int .i64 0) := (blk_cell BKm.out 6).trans rfl
   have hm7 : wm.cell? ⟨m, 7, none⟩ = some (.int .i64 0) := (blk_cell BKm.out 7).trans rfl
   have hm8 : wm.cell? ⟨m, 8, none⟩ = some (.int .i64 0) := (blk_cell BKm.out 8).trans rfl
   have hmf0 := blk_frozen BKm.out 0
   have hmf1 := blk_frozen BKm.out 1
   have hmf2 := blk_frozen BKm.out 2
   have hmf3 := blk_frozen BKm.out 3
   have hmf4 := blk_frozen BKm.out 4
   have hmf5 := blk_frozen BKm.out 5
   have hmf6 := blk_frozen BKm.out 6
   have hmf7 := blk_frozen BKm.out 7
   have hmf8 := blk_frozen BKm.out 8
   refine hK.out _ _ ⟨below_step hHeld.1 hb, pw_cell_below (below_step hHeld.1 hb) hc0, pw_cell_below (below_step hHeld.1 hb) hc4, pw_cell_below (below_step hHeld.1 hb) hx0, pw_cell_below (below_step hHeld.1 hb) hx1, pw_cell_below (below_step hHeld.1 hb) hx2, pw_cell_below (below_step hHeld.1 hb) hx3, pw_cell_below (below_step hHeld.1 hb) hx4, pw_cell_below (below_step hHeld.1 hb) hx5, pw_cell_below (below_step hHeld.1 hb) hx6, pw_cell_below (below_step hHeld.1 hb) hx7, pw_cell_below (below_step hHeld.1 hb) hx8⟩ (fun hHeld => ?_)
   clear hK K
   refine norm_ (a' := ?_) ?_ ?_
   rotate_left
   · show Act.put _ (some 4) _ = _
     simp only [Act.put, List.setIfInBounds_toArray, List.set_cons_zero, List.set_cons_succ, i64_w, i32_w]
     rfl
   refine last_ (i := 11) (N := none) (bzz 12 4095) rfl rfl (by kernel_rfl) (by decide) (fun K hK => ?_)
   refine skip_ (w1 := ?_) (by rfl) rfl ?_ ?_
   rotate_left
   · go_simp
     rfl
   refine hK.out _ _ ?_
   clear hK K
   refine done_ (by kernel_rfl) ?_
   generalize hwf : World.setCell _ _ _ = wf
   have BKM : Aside0 (wf.heap[m]? = some (.cells #[.int .i64 (rd_T55 ms ix).f0.f0, .int .i64 (rd_T55 ms ix).f0.f1, .int .i64 (rd_T55 ms ix).f0.f2, .int .i64 (rd_T55 ms ix).f1.f0, .int .i64 (rd_T55 ms ix).f1.f1, .int .i64 (rd_T55 ms ix).f1.f2, .int .i64 (rd_T55 ms ix).f2, .int .i64 (rd_T55 ms ix).f3, .int .i64 (rd_T55 ms ix).f4] 55 (0, 0))) := ⟨by rw [← hwf]; exact (by refine blk_put (cs := #[.int .i64 (rd_T55 ms ix).f0.f0, .int .i64 (rd_T55 ms ix).f0.f1, .int .i64 (rd_T55 ms ix).f0.f2, .int .i64 (rd_T55 ms ix).f1.f0, .int .i64 (rd_T55 ms ix).f1.f1, .int .i64 (rd_T55 ms ix).f1.f2, .int .i64 (rd_T55 ms ix).f2, .int .i64 (rd_T55 ms ix).f3, .int .i64 0]) ?_ 8 _ rfl; refine blk_put (cs := #[.int .i64 (rd_T55 ms ix).f0.f0, .int .i64 (rd_T55 ms ix).f0.f1, .int .i64 (rd_T55 ms ix).f0.f2, .int .i64 (rd_T55 ms ix).f1.f0, .int .i64 (rd_T55 ms ix).f1.f1, .int .i64 (rd_T55 ms ix).f1.f2, .int .i64 (rd_T55 ms ix).f2, .int .i64 0, .int .i64 0]) ?_ 7 _ rfl; refine blk_put (cs := #[.int .i64 (rd_T55 ms ix).f0.f0, .int .i64 (rd_T55 ms ix).f0.f1, .int .i64 (rd_T55 ms ix).f0.f2, .int .i64 (rd_T55 ms ix).f1.f0, .int .i64 (rd_T55 ms ix).f1.f1, .int .i64 (rd_T55 ms ix).f1.f2, .int .i64 0, .int .i64 0, .int .i64 0]) ?_ 6 _ rfl; refine blk_put (cs := #[.int .i64 (rd_T55 ms ix).f0.f0, .int .i64 (rd_T55 ms ix).f0.f1, .int .i64 (rd_T55 ms ix).f0.f2, .int .i64 (rd_T55 ms ix).f1.f0, .int .i64 (rd_T55 ms ix).f1.f1, .int .i64 0, .int .i64 0, .int .i64 0, .int .i64 0]) ?_ 5 _ rfl; refine blk_put (cs := #[.int .i64 (rd_T55 ms ix).f0.f0, .int .i64 (rd_T55 ms ix).f0.f1, .int .i64 (rd_T55 ms ix).f0.f2, .int .i64 (rd_T55 ms ix).f1.f0, .int .i64 0, .int .i64 0, .int .i64 0, .int .i64 0, .int .i64 0]) ?_ 4 _ rfl; refine blk_put (cs := #[.int .i64 (rd_T55 ms ix).f0.f0, .int .i64 (rd_T55 ms ix).f0.f1, .int .i64 (rd_T55 ms ix).f0.f2, .int .i64 0, .int .i64 0, .int .i64 0, .int .i64 0, .int .i64 0, .int .i64 0]) ?_ 3 _ rfl; refine blk_put (cs := #[.int .i64 (rd_T55 ms ix).f0.f0, .int .i64 (rd_T55 ms ix).f0.f1, .int .i64 0, .int .i64 0, .int .i64 0, .int .i64 0, .int .i64 0, .int .i64 0, .int .i64 0]) ?_ 2 _ rfl; refine blk_put (cs := #[.int .i64 (rd_T55 ms ix).f0.f0, .int .i64 0, .int .i64 0, .int .i64 0, .int .i64 0, .int .i64 0, .int .i64 0, .int .i64 0, .int .i64 0]) ?_ 1 _ rfl; refine blk_put (cs := #[.int .i64 0, .int .i64 0, .int .i64 0, .int .i64 0, .int .i64 0, .int .i64 0, .int .i64 0, .int .i64 0, .int .i64 0]) ?_ 0 _ rfl; exact BKm.out)⟩
   have BKQf : Aside0 (wf.heap[q]? = some (.cells #[.int .i64 0, .int .i64 0, .int .i64 0, .int .i64 0, .int .i64 0, .int .i64 0, .int .i64 0, .int .i64 0, .int .i64 0] 55 (0, 0))) := ⟨by rw [← hwf]; exact (by refine blk_far ?_ hqm _; refine blk_far ?_ hqm _; refine blk_far ?_ hqm _; refine blk_far ?_ hqm _; refine blk_far ?_ hqm _; refine blk_far ?_ hqm _; refine blk_far ?_ hqm _; refine blk_far ?_ hqm _; refine blk_far ?_ hqm _; exact (blk_below BKQ.out HBm.out))⟩
   have HBf : Aside0 (Below w.heap.size w wf) := ⟨by rw [← hwf]; exact ((((((((((below_step HBQ.out HBm.out).setCell HGm.out _).setCell HGm.out _).setCell HGm.out _).setCell HGm.out _).setCell HGm.out _).setCell HGm.out _).setCell HGm.out _).setCell HGm.out _).setCell HGm.out _)⟩
   clear hwf hHeld BKm HBm BKQ HBQ hc0 hc4 hc12 hc13 hc14 hx0 hx1 hx2 hx3 hx4 hx5 hx6 hx7 hx8 hm0 hm1 hm2 hm3 hm4 hm5 hm6 hm7 hm8 hmf0 hmf1 hmf2 hmf3 hmf4 hmf5 hmf6 hmf7 hmf8
   have hc12 : wf.cell? ⟨g, 12, none⟩ = some (.int .i64 lx) := (blk_cell (blk_below BKg.out HBf.out) 12).trans rfl
   have hc13 : wf.cell? ⟨g, 13, none⟩ = some (.int .i64 ly) := (blk_cell (blk_below BKg.out HBf.out) 13).trans rfl
   have hc14 : wf.cell? ⟨g, 14, none⟩ = some (.int .i64 lz) := (blk_cell (blk_below BKg.out HBf.out) 14).trans rfl
   have HSf := Aside0.mk (HS.out.below HBf.out)
   go_upto_region 4 with (fail)
   refine start_ (n := 10) (S := fun w' => Below wf.heap.size wf w' ∧ w'.cell? ⟨g, 12, none⟩ = some (.int .i64 lx) ∧ w'.cell? ⟨g, 13, none⟩ = some (.int .i64 ly) ∧ w'.cell? ⟨g, 14, none⟩ = some (.int .i64 lz)) (ds := [7, 9]) #[false, false, false, false, false, false, false, false, false, false] (by kernel_rfl) rfl rfl ⟨below_drew (Below.refl _ _), pw_cell_below (below_drew (Below.refl _ _)) hc12, pw_cell_below (below_drew (Below.refl _ _)) hc13, pw_cell_below (below_drew (Below.refl _ _)) hc14⟩ (fun hHeld => ?_)
   generalize World.drew _ = wd3 at hHeld ⊢
   refine pu 0 26 (bzz 10 1) (by kernel_rfl) ?_
   refine pu 1 27 (bzz 10 3) (by kernel_rfl) ?_
   refine pu 2 28 (bzz 10 7) (by kernel_rfl) ?_
   refine pu 4 30 (bzz 10 23) (by kernel_rfl) ?_
   refine ta 3 29 (bzz 10 31) (by kernel_rfl) hHeld ?_
   refine pu 6 32 (bzz 10 95) (by kernel_rfl) ?_
   refine one_ (i := 5) (N := some 31) (bzz 10 127) rfl rfl (by kernel_rfl) (by decide) (fun K hK => ?_)
   refine goes_ Try.func10 (by kernel_rfl) rfl #[.pointer (some ⟨g, 0, none⟩)] (by rfl) rfl rfl (by simp only [List.map_toArray, List.map_cons, List.map_nil]; rfl) ?_
   with_reducible refine (controller_Position.calls x y z (HSf.out.below hHeld.1) HP.out).mono ?_
   rintro e w3 ⟨rfl, hb⟩
   refine ⟨_, rfl, ?_⟩
   have BKm3 := Aside0.mk (blk_below BKM.out (below_step hHeld.1 hb))
   have hm0 : w3.cell? ⟨m, 0, none⟩ = some (.int .i64 (rd_T55 ms ix).f0.f0) := (blk_cell BKm3.out 0).trans rfl
   have hm1 : w3.cell? ⟨m, 1, none⟩ = some (.int .i64 (rd_T55 ms ix).f0.f1) := (blk_cell BKm3.out 1).trans rfl
   have hm2 : w3.cell? ⟨m, 2, none⟩ = some (.int .i64 (rd_T55 ms ix).f0.f2) := (blk_cell BKm3.out 2).trans rfl
   have hm3 : w3.cell? ⟨m, 3, none⟩ = some (.int .i64 (rd_T55 ms ix).f1.f0) := (blk_cell BKm3.out 3).trans rfl
   have hm4 : w3.cell? ⟨m, 4, none⟩ = some (.int .i64 (rd_T55 ms ix).f1.f1) := (blk_cell BKm3.out 4).trans rfl
   have hm5 : w3.cell? ⟨m, 5, none⟩ = some (.int .i64 (rd_T55 ms ix).f1.f2) := (blk_cell BKm3.out 5).trans rfl
   have hmf0 := blk_frozen BKm3.out 0
   have hmf1 := blk_frozen BKm3.out 1
   have hmf2 := blk_frozen BKm3.out 2
   have hmf3 := blk_frozen BKm3.out 3
   have hmf4 := blk_frozen BKm3.out 4
   have hmf5 := blk_frozen BKm3.out 5
   have HB3 := Aside0.mk (below_step hHeld.1 hb)
   refine hK.out _ _ ⟨below_step hHeld.1 hb, pw_cell_below (below_step hHeld.1 hb) hc12, pw_cell_below (below_step hHeld.1 hb) hc13, pw_cell_below (below_step hHeld.1 hb) hc14⟩ (fun hHeld => ?_)
   clear hK K
   refine norm_ (a' := ?_) ?_ ?_
   rotate_left
   · show Act.put _ (some 31) _ = _
     simp only [Act.put, List.setIfInBounds_toArray, List.set_cons_zero, List.set_cons_succ, i64_w, i32_w]
     rfl
   refine last_ (i := 7) (N := none) (bzz 10 255) rfl rfl (by kernel_rfl) (by decide) (fun K hK => ?_)
   refine skip_ (w1 := ?_) (by rfl) rfl ?_ ?_
   rotate_left
   · go_simp
     rfl
   refine hK.out _ _ ?_
   clear hK K
   refine pu 8 33 (bzz 10 511) (by kernel_rfl) ?_
   refine last_ (i := 9) (N := none) (bzz 10 1023) rfl rfl (by kernel_rfl) (by decide) (fun K hK => ?_)
   refine skip_ (w1 := ?_) (by rfl) rfl ?_ ?_
   rotate_left
   · go_simp
     rfl
   refine hK.out _ _ ?_
   clear hK K
   refine done_ (by kernel_rfl) ?_
   generalize hwh : World.setCell _ _ _ = wh
   have BKN : Aside0 (wh.heap[m]? = some (.cells #[.int .i64 lx, .int .i64 ly, .int .i64 lz, .int .i64 x, .int .i64 y, .int .i64 z, .int .i64 (rd_T55 ms ix).f2, .int .i64 (rd_T55 ms ix).f3, .int .i64 (rd_T55 ms ix).f4] 55 (0, 0))) := ⟨by rw [← hwh]; exact (by refine blk_put (cs := #[.int .i64 lx, .int .i64 ly, .int .i64 lz, .int .i64 x, .int .i64 y, .int .i64 (rd_T55 ms ix).f1.f2, .int .i64 (rd_T55 ms ix).f2, .int .i64 (rd_T55 ms ix).f3, .int .i64 (rd_T55 ms ix).f4]) ?_ 5 _ rfl; refine blk_put (cs := #[.int .i64 lx, .int .i64 ly, .int .i64 lz, .int .i64 x, .int .i64 (rd_T55 ms ix).f1.f1, .int .i64 (rd_T55 ms ix).f1.f2, .int .i64 (rd_T55 ms ix).f2, .int .i64 (rd_T55 ms ix).f3, .int .i64 (rd_T55 ms ix).f4]) ?_ 4 _ rfl; refine blk_put (cs := #[.int .i64 lx, .int .i64 ly, .int .i64 lz, .int .i64 (rd_T55 ms ix).f1.f0, .int .i64 (rd_T55 ms ix).f1.f1, .int .i64 (rd_T55 ms ix).f1.f2, .int .i64 (rd_T55 ms ix).f2, .int .i64 (rd_T55 ms ix).f3, .int .i64 (rd_T55 ms ix).f4]) ?_ 3 _ rfl; refine blk_put (cs := #[.int .i64 lx, .int .i64 ly, .int .i64 (rd_T55 ms ix).f0.f2, .int .i64 (rd_T55 ms ix).f1.f0, .int .i64 (rd_T55 ms ix).f1.f1, .int .i64 (rd_T55 ms ix).f1.f2, .int .i64 (rd_T55 ms ix).f2, .int .i64 (rd_T55 ms ix).f3, .int .i64 (rd_T55 ms ix).f4]) ?_ 2 _ rfl; refine blk_put (cs := #[.int .i64 lx, .int .i64 (rd_T55 ms ix).f0.f1, .int .i64 (rd_T55 ms ix).f0.f2, .int .i64 (rd_T55 ms ix).f1.f0, .int .i64 (rd_T55 ms ix).f1.f1, .int .i64 (rd_T55 ms ix).f1.f2, .int .i64 (rd_T55 ms ix).f2, .int .i64 (rd_T55 ms ix).f3, .int .i64 (rd_T55 ms ix).f4]) ?_ 1 _ rfl; refine blk_put (cs := #[.int .i64 (rd_T55 ms ix).f0.f0, .int .i64 (rd_T55 ms ix).f0.f1, .int .i64 (rd_T55 ms ix).f0.f2, .int .i64 (rd_T55 ms ix).f1.f0, .int .i64 (rd_T55 ms ix).f1.f1, .int .i64 (rd_T55 ms ix).f1.f2, .int .i64 (rd_T55 ms ix).f2, .int .i64 (rd_T55 ms ix).f3, .int .i64 (rd_T55 ms ix).f4]) ?_ 0 _ rfl; exact BKm3.out)⟩
   have BKQh : Aside0 (wh.heap[q]? = some (.cells #[.int .i64 0, .int .i64 0, .int .i64 0, .int .i64 0, .int .i64 0, .int .i64 0, .int .i64 0, .int .i64 0, .int .i64 0] 55 (0, 0))) := ⟨by rw [← hwh]; exact (by refine blk_far ?_ hqm _; refine blk_far ?_ hqm _; refine blk_far ?_ hqm _; refine blk_far ?_ hqm _; refine blk_far ?_ hqm _; refine blk_far ?_ hqm _; exact (blk_below BKQf.out HB3.out))⟩
   have HBh : Aside0 (Below w.heap.size w wh) := ⟨by rw [← hwh]; exact (((((((below_step HBf.out HB3.out).setCell HGm.out _).setCell HGm.out _).setCell HGm.out _).setCell HGm.out _).setCell HGm.out _).setCell HGm.out _)⟩
   clear hwh hHeld BKm3 HB3 BKQf HBf HSf BKM hc12 hc13 hc14 hm0 hm1 hm2 hm3 hm4 hm5 hmf0 hmf1 hmf2 hmf3 hmf4 hmf5
   have hm0 : wh.cell? ⟨m, 0, none⟩ = some (.int .i64 lx) := (blk_cell BKN.out 0).trans rfl
   have hm1 : wh.cell? ⟨m, 1, none⟩ = some (.int .i64 ly) := (blk_cell BKN.out 1).trans rfl
   have hm2 : wh.cell? ⟨m, 2, none⟩ = some (.int .i64 lz) := (blk_cell BKN.out 2).trans rfl
   have hm3 : wh.cell? ⟨m, 3, none⟩ = some (.int .i64 x) := (blk_cell BKN.out 3).trans rfl
   have hm4 : wh.cell? ⟨m, 4, none⟩ = some (.int .i64 y) := (blk_cell BKN.out 4).trans rfl
   have hm5 : wh.cell? ⟨m, 5, none⟩ = some (.int .i64 z) := (blk_cell BKN.out 5).trans rfl
   have hm6 : wh.cell? ⟨m, 6, none⟩ = some (.int .i64 (rd_T55 ms ix).f2) := (blk_cell BKN.out 6).trans rfl
   have hm7 : wh.cell? ⟨m, 7, none⟩ = some (.int .i64 (rd_T55 ms ix).f3) := (blk_cell BKN.out 7).trans rfl
   have hm8 : wh.cell? ⟨m, 8, none⟩ = some (.int .i64 (rd_T55 ms ix).f4) := (blk_cell BKN.out 8).trans rfl
   go_upto_region 5 with (fail)
   have HX := Aside0.mk (blk_drew BKQh.out)
   refine start_ (n := 8) (S := fun w' => Aside0 (Below w.heap.size w w') ∧ Aside0 (w'.heap[m]? = some (.cells #[.int .i64 lx, .int .i64 ly, .int .i64 lz, .int .i64 x, .int .i64 y, .int .i64 z, .int .i64 (rd_T55 ms ix).f2, .int .i64 (rd_T55 ms ix).f3, .int .i64 (rd_T55 ms ix).f4] 55 (0, 0))) ∧ w'.cell? ⟨m, 0, none⟩ = some (.int .i64 lx) ∧ w'.cell? ⟨m, 1, none⟩ = some (.int .i64 ly) ∧ w'.cell? ⟨m, 2, none⟩ = some (.int .i64 lz) ∧ w'.cell? ⟨m, 3, none⟩ = some (.int .i64 x) ∧ w'.cell? ⟨m, 4, none⟩ = some (.int .i64 y) ∧ w'.cell? ⟨m, 5, none⟩ = some (.int .i64 z) ∧ w'.cell? ⟨m, 6, none⟩ = some (.int .i64 (rd_T55 ms ix).f2) ∧ w'.cell? ⟨m, 7, none⟩ = some (.int .i64 (rd_T55 ms ix).f3) ∧ w'.cell? ⟨m, 8, none⟩ = some (.int .i64 (rd_T55 ms ix).f4)) (ds := []) #[false, false, false, false, false, false, false, false] (by kernel_rfl) rfl rfl ⟨⟨(HBh.out).drew⟩, ⟨blk_drew BKN.out⟩, (blk_cell (blk_drew BKN.out) 0).trans rfl, (blk_cell (blk_drew BKN.out) 1).trans rfl, (blk_cell (blk_drew BKN.out) 2).trans rfl, (blk_cell (blk_drew BKN.out) 3).trans rfl, (blk_cell (blk_drew BKN.out) 4).trans rfl, (blk_cell (blk_drew BKN.out) 5).trans rfl, (blk_cell (blk_drew BKN.out) 6).trans rfl, (blk_cell (blk_drew BKN.out) 7).trans rfl, (blk_cell (blk_drew BKN.out) 8).trans rfl⟩ (fun hHeld => ?_)
   generalize World.drew _ = wd4 at hHeld HX ⊢
   refine pu 1 35 (bzz 8 2) (by kernel_rfl) ?_
   refine pu 3 37 (bzz 8 10) (by kernel_rfl) ?_
   refine ta 0 34 (bzz 8 11) (by kernel_rfl) hHeld ?_
   refine ta 2 36 (bzz 8 15) (by kernel_rfl) hHeld ?_
   refine ta 4 38 (bzz 8 31) (by kernel_rfl) hHeld ?_
   refine pu 5 39 (bzz 8 63) (by kernel_rfl) ?_
   refine one_ (i := 6) (N := none) (bzz 8 127) rfl rfl (by kernel_rfl) (by decide) (fun K hK => ?_)
   have hq0 : wd4.cell? ⟨q, 0, none⟩ = some (.int .i64 0) := (blk_cell HX.out 0).trans rfl
   have hq1 : wd4.cell? ⟨q, 1, none⟩ = some (.int .i64 0) := (blk_cell HX.out 1).trans rfl
   have hq2 : wd4.cell? ⟨q, 2, none⟩ = some (.int .i64 0) := (blk_cell HX.out 2).trans rfl
   have hq3 : wd4.cell? ⟨q, 3, none⟩ = some (.int .i64 0) := (blk_cell HX.out 3).trans rfl
   have hq4 : wd4.cell? ⟨q, 4, none⟩ = some (.int .i64 0) := (blk_cell HX.out 4).trans rfl
   have hq5 : wd4.cell? ⟨q, 5, none⟩ = some (.int .i64 0) := (blk_cell HX.out 5).trans rfl
   have hq6 : wd4.cell? ⟨q, 6, none⟩ = some (.int .i64 0) := (blk_cell HX.out 6).trans rfl
   have hq7 : wd4.cell? ⟨q, 7, none⟩ = some (.int .i64 0) := (blk_cell HX.out 7).trans rfl
   have hq8 : wd4.cell? ⟨q, 8, none⟩ = some (.int .i64 0) := (blk_cell HX.out 8).trans rfl
   have hqf0 := blk_frozen HX.out 0
   have hqf1 := blk_frozen HX.out 1
   have hqf2 := blk_frozen HX.out 2
   have hqf3 := blk_frozen HX.out 3
   have hqf4 := blk_frozen HX.out 4
   have hqf5 := blk_frozen HX.out 5
   have hqf6 := blk_frozen HX.out 6
   have hqf7 := blk_frozen HX.out 7
   have hqf8 := blk_frozen HX.out 8
   refine skip_ (w1 := ?_) (by rfl) rfl ?_ ?_
   rotate_left
   · go_simp
     rfl
   generalize hwk : World.setCell _ _ _ = wk
   have BKk : Aside0 (wk.heap[m]? = some (.cells #[.int .i64 lx, .int .i64 ly, .int .i64 lz, .int .i64 x, .int .i64 y, .int .i64 z, .int .i64 (rd_T55 ms ix).f2, .int .i64 (rd_T55 ms ix).f3, .int .i64 (rd_T55 ms ix).f4] 55 (0, 0))) := ⟨by rw [← hwk]; exact (by refine blk_far ?_ (fun e => hqm e.symm) _; refine blk_far ?_ (fun e => hqm e.symm) _; refine blk_far ?_ (fun e => hqm e.symm) _; refine blk_far ?_ (fun e => hqm e.symm) _; refine blk_far ?_ (fun e => hqm e.symm) _; refine blk_far ?_ (fun e => hqm e.symm) _; refine blk_far ?_ (fun e => hqm e.symm) _; refine blk_far ?_ (fun e => hqm e.symm) _; refine blk_far ?_ (fun e => hqm e.symm) _; exact hHeld.2.1.out)⟩
   have BKq : Aside0 (wk.heap[q]? = some (.cells #[.int .i64 lx, .int .i64 ly, .int .i64 lz, .int .i64 x, .int .i64 y, .int .i64 z, .int .i64 (rd_T55 ms ix).f2, .int .i64 (rd_T55 ms ix).f3, .int .i64 (rd_T55 ms ix).f4] 55 (0, 0))) := ⟨by rw [← hwk]; exact (by refine blk_put (cs := #[.int .i64 lx, .int .i64 ly, .int .i64 lz, .int .i64 x, .int .i64 y, .int .i64 z, .int .i64 (rd_T55 ms ix).f2, .int .i64 (rd_T55 ms ix).f3, .int .i64 0]) ?_ 8 _ rfl; refine blk_put (cs := #[.int .i64 lx, .int .i64 ly, .int .i64 lz, .int .i64 x, .int .i64 y, .int .i64 z, .int .i64 (rd_T55 ms ix).f2, .int .i64 0, .int .i64 0]) ?_ 7 _ rfl; refine blk_put (cs := #[.int .i64 lx, .int .i64 ly, .int .i64 lz, .int .i64 x, .int .i64 y, .int .i64 z, .int .i64 0, .int .i64 0, .int .i64 0]) ?_ 6 _ rfl; refine blk_put (cs := #[.int .i64 lx, .int .i64 ly, .int .i64 lz, .int .i64 x, .int .i64 y, .int .i64 0, .int .i64 0, .int .i64 0, .int .i64 0]) ?_ 5 _ rfl; refine blk_put (cs := #[.int .i64 lx, .int .i64 ly, .int .i64 lz, .int .i64 x, .int .i64 0, .int .i64 0, .int .i64 0, .int .i64 0, .int .i64 0]) ?_ 4 _ rfl; refine blk_put (cs := #[.int .i64 lx, .int .i64 ly, .int .i64 lz, .int .i64 0, .int .i64 0, .int .i64 0, .int .i64 0, .int .i64 0, .int .i64 0]) ?_ 3 _ rfl; refine blk_put (cs := #[.int .i64 lx, .int .i64 ly, .int .i64 0, .int .i64 0, .int .i64 0, .int .i64 0, .int .i64 0, .int .i64 0, .int .i64 0]) ?_ 2 _ rfl; refine blk_put (cs := #[.int .i64 lx, .int .i64 0, .int .i64 0, .int .i64 0, .int .i64 0, .int .i64 0, .int .i64 0, .int .i64 0, .int .i64 0]) ?_ 1 _ rfl; refine blk_put (cs := #[.int .i64 0, .int .i64 0, .int .i64 0, .int .i64 0, .int .i64 0, .int .i64 0, .int .i64 0, .int .i64 0, .int .i64 0]) ?_ 0 _ rfl; exact HX.out)⟩
   have HBk : Aside0 (Below w.heap.size w wk) := ⟨by rw [← hwk]; exact (((((((((hHeld.1.out.setCell HGE.out _).setCell HGE.out _).setCell HGE.out _).setCell HGE.out _).setCell HGE.out _).setCell HGE.out _).setCell HGE.out _).setCell HGE.out _).setCell HGE.out _)⟩
   clear hwk
   refine hK.out _ _ ⟨HBk, BKk, (blk_cell BKk.out 0).trans rfl, (blk_cell BKk.out 1).trans rfl, (blk_cell BKk.out 2).trans rfl, (blk_cell BKk.out 3).trans rfl, (blk_cell BKk.out 4).trans rfl, (blk_cell BKk.out 5).trans rfl, (blk_cell BKk.out 6).trans rfl, (blk_cell BKk.out 7).trans rfl, (blk_cell BKk.out 8).trans rfl⟩ (fun hHeld => ?_)
   clear hK K
   refine pu 7 3 (bzz 8 255) (by kernel_rfl) ?_
   refine done_ (by kernel_rfl) ?_
   go_wp2
   refine bodyPost_ret (results_ct rfl _ _ q 55 #[.int .i64 lx, .int .i64 ly, .int .i64 lz, .int .i64 x, .int .i64 y, .int .i64 z, .int .i64 (rd_T55 ms ix).f2, .int .i64 (rd_T55 ms ix).f3, .int .i64 (rd_T55 ms ix).f4] (0, 0) _ rfl BKq.out hu55 rfl (by kernel_rfl)) rfl ?_
   refine ⟨?_, HBk.out⟩
   first | rfl | (simp only [Array.getD]; rfl) | (simp [bne]; done)
end Go.Proofs.Ytmaegpblaihepaa.F
