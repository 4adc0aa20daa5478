/- Done, by a contract. -/
import Derived.Test.YtmaegpblaihepaaT5
import Derived.Test.YtmaegpblaihepaaT3
namespace Go.Proofs.Ytmaegpblaihepaa.F
open Go.RowKit Go.Proofs.YtmaegpblaihepaaW.PrintWords Go.Proofs.YtmaegpblaihepaaW.PrintLast Go.Proofs.YtmaegpblaihepaaW.PrintMore
attribute [local go_sem] max2_int min2_int max_two min_two max_three min_three max_four min_four
set_option linter.unusedVariables false
set_option linter.unusedSimpArgs false
set_option maxRecDepth 100000 in
set_option maxHeartbeats 8000000 in
theorem controller_Done.calls (m : S55) (b : Bool) {B g : Nat} {s : CS} {w : World} (hs : Ctl B w g s) (hp : PieceP s m b) (hr : s.at_ = (s.pl.length : Int)) (hl : s.pcs.length ≤ 1000000) : Calls Try.prog 16 #[.pointer (some ⟨g, 0, none⟩)] w fun e w' => ∃ v, e = .returned v ∧ Kd.R k55 55 w' w.heap.size (fun _ => True) v s.pcs ∧ Below w.heap.size w w' := by
 have HT := Aside0.mk hs
 have HP := Aside0.mk hp
 have HRR := Aside0.mk hr
 have HL := Aside0.mk hl
 clear hp hr hl
 obtain ⟨ms, sp, ac, je, ix, pt, pl, at_, bra, held, brk, pcs, lx, ly, lz⟩ := s
 have HL2 : Aside0 (pcs.length ≤ 1000000) := HL
 clear HL
 obtain ⟨hBg, AM, cM, AP, cP, AQ, cQ, hbox, hm1, hp1, hq1, hM, hP, hQ⟩ := hs.open_
 dsimp only at hbox hm1 hp1 hq1 hM hP hQ
 have HS := Aside0.mk hs
 have BKg := Aside0.mk hbox
 have RM := Aside0.mk hM
 have RP := Aside0.mk hP
 have RQ := Aside0.mk hQ
 have GEg := Aside0.mk hBg
 have HM1 := Aside0.mk hm1
 have HP1 := Aside0.mk hp1
 have HQ1 := Aside0.mk hq1
 clear hs hbox hM hP hQ hBg hm1 hp1 hq1
 have hc11 : w.cell? ⟨g, 11, none⟩ = some (.slice AQ pcs.length cQ) := (blk_cell BKg.out 11).trans rfl
 have hu55 := Try.underlying55
 go_enter Try.func16, Try.ntmps16
 go_upto_region 3 with (first | (go_at_call 22; (with_reducible refine (slices_Clone.calls AQ cQ pcs (Kd.R_reads' RQ.out).2.2 HL2.out).mono ?_); rintro e w2 ⟨v0, rfl, hR, hb⟩; have RN := Aside0.mk hR; have HB2 := Aside0.mk hb; obtain ⟨A0, c0, ep⟩ := Kd.R_slice RN.out; subst ep; clear hR hb) | (go_at_call 33; (with_reducible refine (controller_piece.calls m b (HT.out.below HB2.out) HP.out).mono ?_); rintro e w3 ⟨rfl, hb⟩; have RN3 := Aside0.mk (Kd.R_below RN.out hb); have HB3 := Aside0.mk (below_step HB2.out hb); clear hb) | ((with_reducible refine gate_dst (N := 4) rfl ?_); refine box_event ?hg (N := 4) ?hd (cs := #[.int .i64 0, .int .i64 0, .int .i64 0, .int .i64 0, .int .i64 0, .int .i64 0, .int .i64 0, .int .i64 0, .int .i64 0]) (t := 55) ?hr ?_; (case hd => rfl); (case hg => rfl); (case hr => first | (go_simp; done) | (go_simp; rfl)); intro q hg w4 hbox hb; have BKq := Aside0.mk hbox; have HBq := Aside0.mk hb; have HGq : Aside0 (w3.heap.size ≤ q) := ⟨(by rw [hg]; exact Nat.le_refl _)⟩; clear hg hbox hb; have hm0 : w4.cell? ⟨q, 0, none⟩ = some (.int .i64 0) := (blk_cell BKq.out 0).trans rfl; have hm1 : w4.cell? ⟨q, 1, none⟩ = some (.int .i64 0) := (blk_cell BKq.out 1).trans rfl; have hm2 : w4.cell? ⟨q, 2, none⟩ = some (.int .i64 0) := (blk_cell BKq.out 2).trans rfl; have hm3 : w4.cell? ⟨q, 3, none⟩ = some (.int .i64 0) := (blk_cell BKq.out 3).trans rfl; have hm4 : w4.cell? ⟨q, 4, none⟩ = some (.int .i64 0) := (blk_cell BKq.out 4).trans rfl; have hm5 : w4.cell? ⟨q, 5, none⟩ = some (.int .i64 0) := (blk_cell BKq.out 5).trans rfl; have hm6 : w4.cell? ⟨q, 6, none⟩ = some (.int .i64 0) := (blk_cell BKq.out 6).trans rfl; have hm7 : w4.cell? ⟨q, 7, none⟩ = some (.int .i64 0) := (blk_cell BKq.out 7).trans rfl; have hm8 : w4.cell? ⟨q, 8, none⟩ = some (.int .i64 0) := (blk_cell BKq.out 8).trans rfl; have hmf0 := blk_frozen BKq.out 0; have hmf1 := blk_frozen BKq.out 1; have hmf2 := blk_frozen BKq.out 2; have hmf3 := blk_frozen BKq.out 3; have hmf4 := blk_frozen BKq.out 4; have hmf5 := blk_frozen BKq.out 5; have hmf6 := blk_frozen BKq.out 6; have hmf7 := blk_frozen BKq.out 7; have hmf8 := blk_frozen BKq.out 8))
 generalize hwf : World.setCell _ _ _ = wf
 have HBf : Aside0 (Below w3.heap.size w3 wf) := ⟨by rw [← hwf]; exact (((((((((HBq.out.setCell HGq.out _).setCell HGq.out _).setCell HGq.out _).setCell HGq.out _).setCell HGq.out _).setCell HGq.out _).setCell HGq.out _).setCell HGq.out _).setCell HGq.out _)⟩
 have RNf := Aside0.mk (Kd.R_below RN3.out HBf.out)
 have HBw := Aside0.mk (below_step HB3.out HBf.out)
 clear hwf hm0 hm1 hm2 hm3 hm4 hm5 hm6 hm7 hm8 hmf0 hmf1 hmf2 hmf3 hmf4 hmf5 hmf6 hmf7 hmf8 BKq HBq
 cases b with
 | false =>
   go_wp2
   go_ret
   exact ⟨_, rfl, RNf.out, HBw.out⟩
 | true =>
   go_wp2_with (first | (go_at_call 24; (with_reducible refine (controller_resting.calls true (HT.out.below HBw.out) (beq_iff_eq.mpr HRR.out)).mono ?_); rintro e w5 ⟨rfl, hb⟩; have RN5 := Aside0.mk (Kd.R_below RNf.out hb); have HB5 := Aside0.mk (below_step HBw.out hb); clear hb))
   go_ret
   exact ⟨_, rfl, RN5.out, HB5.out⟩
end Go.Proofs.Ytmaegpblaihepaa.F
