/- skip, by a contract. -/
import Derived.Test.YtmaegpblaihepaaWc
import Derived.Test.YtmaegpblaihepaaT1
namespace Go.Proofs.Ytmaegpblaihepaa.F
open Go.RowKit Go.Proofs.YtmaegpblaihepaaW.PrintWords Go.Proofs.YtmaegpblaihepaaW.PrintLast Go.Proofs.YtmaegpblaihepaaW.PrintMore
attribute [local go_sem] max2_int min2_int max_two min_two max_three min_three max_four min_four
set_option linter.unusedVariables false
set_option linter.unusedSimpArgs false
/-- from i on, the motions ahead of j have no length -/
def SkipTo : Nat → List S55 → Int → Int → Prop
 | 0, _, _, _ => False
 | k + 1, ms, i, j => if i < (ms.length : Int) then (∃ n q, controller_length.f q (rd_T55 ms i).f0.f0 (rd_T55 ms i).f0.f1 (rd_T55 ms i).f0.f2 (rd_T55 ms i).f1.f0 (rd_T55 ms i).f1.f1 (rd_T55 ms i).f1.f2 (rd_T55 ms i).f2 (rd_T55 ms i).f3 (rd_T55 ms i).f4 = some n ∧ (if n = 0 then SkipTo k ms (wrap64 (i + 1)) j ∧ 0 ≤ wrap64 (i + 1) else j = i)) else j = i
set_option maxRecDepth 100000 in
set_option maxHeartbeats 8000000 in
theorem controller_skip.calls (k : Nat) (j : Int) {B g : Nat} {s : CS} {w : World} (hs : Ctl B w g s) (h0 : 0 ≤ s.ix) (hj : SkipTo k s.ms s.ix j) : Calls Try.prog 23 #[.pointer (some ⟨g, 0, none⟩)] w fun e w' => e = .returned (.tuple #[]) ∧ Ctl B w' g { s with ix := j } ∧ Below B w w' := by
 obtain ⟨ms, sp, ac, je, ix, pt, pl, at_, bra, held, brk, pcs, lx, ly, lz⟩ := s
 dsimp only at h0 hj ⊢
 have HS := Aside0.mk hs
 have HJ := Aside0.mk hj
 have H0 := Aside0.mk h0
 clear hs hj h0
 go_enter Try.func23, Try.ntmps23
 go_upto_block 0 with (fail)
 go_wp2_with (fail)
 go_loopg [] k (fun kq w' => ∃ i : Int, Aside0 (SkipTo kq ms i j) ∧ Aside0 (kq ≤ k) ∧ Aside0 (0 ≤ i) ∧ Aside0 (Ctl B w' g (⟨ms, sp, ac, je, i, pt, pl, at_, bra, held, brk, pcs, lx, ly, lz⟩ : CS)) ∧ Aside0 (Below B w w'))
 case atStart => exact ⟨ix, HJ, ⟨Nat.le_refl _⟩, H0, HS, ⟨Below.refl _ _⟩⟩
 case round =>
  clear HS HJ H0 ix
  obtain ⟨ix, HJ, HK, H0, HS_, HB⟩ := hrel
  obtain ⟨hBg, AM, cM, AP, cP, AQ, cQ, hbox, hm1, hp1, hq1, hM, hP, hQ⟩ := HS_.out.open_
  dsimp only at hbox hm1 hp1 hq1 hM hP hQ
  have HS := Aside0.mk HS_.out
  have BKg := Aside0.mk hbox
  have RM := Aside0.mk hM
  have RP := Aside0.mk hP
  have RQ := Aside0.mk hQ
  have GEg := Aside0.mk hBg
  have HM1 := Aside0.mk hm1
  have HP1 := Aside0.mk hp1
  have HQ1 := Aside0.mk hq1
  clear HS_ hbox hM hP hQ hBg hm1 hp1 hq1
  have hc0 : wr.cell? ⟨g, 0, none⟩ = some (.slice AM ms.length cM) := (blk_cell BKg.out 0).trans rfl
  have hc4 : wr.cell? ⟨g, 4, none⟩ = some (.int .i64 ix) := (blk_cell BKg.out 4).trans rfl
  have hf4 := blk_frozen BKg.out 4
  cases gk with
  | zero => exact absurd HJ.out (by simp [SkipTo])
  | succ k1 =>
   have h := HJ.out
   clear HJ
   simp only [SkipTo] at h
   by_cases c1 : ix < (ms.length : Int)
   · rw [if_pos c1] at h
     have c1b : decide (ix < (ms.length : Int)) = true := decide_eq_true c1
     obtain ⟨n, q, hl, h⟩ := h
     have HL := Aside0.mk hl
     clear hl
     obtain ⟨ad, ea_, hx0, hx1, hx2, hx3, hx4, hx5, hx6, hx7, hx8⟩ := at_T55 (Kd.R_reads' RM.out).2.2 ix H0.out c1
     subst ea_
     have h0 := eq_true H0.out
     have h1 := eq_true c1
     clear c1
     by_cases c2 : n = 0
     · rw [if_pos c2] at h
       have c2b : (n == 0) = true := beq_iff_eq.mpr c2
       clear c2
       have HJ := Aside0.mk h
       clear h
       go_upto_region 0 with (fail)
       refine start_ (n := 24) (S := fun w' => Below wr.heap.size wr w' ∧ w'.cell? ⟨g, 0, none⟩ = some (.slice (some ad) ms.length cM) ∧ w'.cell? ⟨g, 4, none⟩ = some (.int .i64 ix) ∧ w'.cell? (ad.add (ix.toNat * 9)) = some (.int .i64 (rd_T55 ms ix).f0.f0) ∧ w'.cell? ⟨(ad.add (ix.toNat * 9)).block, (ad.add (ix.toNat * 9)).off + 1, none⟩ = some (.int .i64 (rd_T55 ms ix).f0.f1) ∧ w'.cell? ⟨(ad.add (ix.toNat * 9)).block, (ad.add (ix.toNat * 9)).off + 2, none⟩ = some (.int .i64 (rd_T55 ms ix).f0.f2) ∧ w'.cell? ⟨(ad.add (ix.toNat * 9)).block, (ad.add (ix.toNat * 9)).off + 3, none⟩ = some (.int .i64 (rd_T55 ms ix).f1.f0) ∧ w'.cell? ⟨(ad.add (ix.toNat * 9)).block, (ad.add (ix.toNat * 9)).off + 4, none⟩ = some (.int .i64 (rd_T55 ms ix).f1.f1) ∧ w'.cell? ⟨(ad.add (ix.toNat * 9)).block, (ad.add (ix.toNat * 9)).off + 5, none⟩ = some (.int .i64 (rd_T55 ms ix).f1.f2) ∧ w'.cell? ⟨(ad.add (ix.toNat * 9)).block, (ad.add (ix.toNat * 9)).off + 6, none⟩ = some (.int .i64 (rd_T55 ms ix).f2) ∧ w'.cell? ⟨(ad.add (ix.toNat * 9)).block, (ad.add (ix.toNat * 9)).off + 7, none⟩ = some (.int .i64 (rd_T55 ms ix).f3) ∧ w'.cell? ⟨(ad.add (ix.toNat * 9)).block, (ad.add (ix.toNat * 9)).off + 8, none⟩ = some (.int .i64 (rd_T55 ms ix).f4)) (ds := []) #[false, false, false, false, false, false, false, false, false, false, false, false, false, false, false, false, false, false, false, false, false, false, false, false] (by kernel_rfl) rfl rfl ⟨below_drew (Below.refl _ _), pw_cell_below (below_drew (Below.refl _ _)) hc0, pw_cell_below (below_drew (Below.refl _ _)) hc4, pw_cell_below (below_drew (Below.refl _ _)) hx0, pw_cell_below (below_drew (Below.refl _ _)) hx1, pw_cell_below (below_drew (Below.refl _ _)) hx2, pw_cell_below (below_drew (Below.refl _ _)) hx3, pw_cell_below (below_drew (Below.refl _ _)) hx4, pw_cell_below (below_drew (Below.refl _ _)) hx5, pw_cell_below (below_drew (Below.refl _ _)) hx6, pw_cell_below (below_drew (Below.refl _ _)) hx7, pw_cell_below (below_drew (Below.refl _ _)) hx8⟩ (fun hHeld => ?_)
       refine pu 0 2 (bzz 24 1) (by kernel_rfl) ?_
       refine pu 1 3 (bzz 24 3) (by kernel_rfl) ?_
       refine pu 2 4 (bzz 24 7) (by kernel_rfl) ?_
       refine pu 4 6 (bzz 24 23) (by kernel_rfl) ?_
       refine pu 5 7 (bzz 24 55) (by kernel_rfl) ?_
       refine pu 6 8 (bzz 24 119) (by kernel_rfl) ?_
       refine ta 3 5 (bzz 24 127) (by kernel_rfl) hHeld ?_
       refine ta 7 9 (bzz 24 255) (by kernel_rfl) hHeld ?_
       refine pu 8 10 (bzz 24 511) (by kernel_rfl) ?_
       refine pu 9 11 (bzz 24 1023) (by kernel_rfl) ?_
       refine pu 10 12 (bzz 24 2047) (by kernel_rfl) ?_
       refine pu 11 13 (bzz 24 4095) (by kernel_rfl) ?_
       refine pu 12 14 (bzz 24 8191) (by kernel_rfl) ?_
       refine pu 13 15 (bzz 24 16383) (by kernel_rfl) ?_
       refine pu 15 17 (bzz 24 49151) (by kernel_rfl) ?_
       refine pu 16 18 (bzz 24 114687) (by kernel_rfl) ?_
       refine pu 17 19 (bzz 24 245759) (by kernel_rfl) ?_
       refine ta 14 16 (bzz 24 262143) (by kernel_rfl) hHeld ?_
       refine ta 18 20 (bzz 24 524287) (by kernel_rfl) hHeld ?_
       refine pu 19 21 (bzz 24 1048575) (by kernel_rfl) ?_
       refine ta 20 22 (bzz 24 2097151) (by kernel_rfl) hHeld ?_
       refine one_ (i := 21) (N := some 23) (bzz 24 4194303) rfl rfl (by kernel_rfl) (by decide) (fun K hK => ?_)
       refine goes_ Try.func32 (by kernel_rfl) rfl #[.agg #[.int .i64 (rd_T55 ms ix).f0.f0, .int .i64 (rd_T55 ms ix).f0.f1, .int .i64 (rd_T55 ms ix).f0.f2, .int .i64 (rd_T55 ms ix).f1.f0, .int .i64 (rd_T55 ms ix).f1.f1, .int .i64 (rd_T55 ms ix).f1.f2, .int .i64 (rd_T55 ms ix).f2, .int .i64 (rd_T55 ms ix).f3, .int .i64 (rd_T55 ms ix).f4]] (by rfl) rfl rfl (by simp only [List.map_toArray, List.map_cons, List.map_nil]; rfl) ?_
       with_reducible refine (controller_length.calls q (rd_T55 ms ix).f0.f0 (rd_T55 ms ix).f0.f1 (rd_T55 ms ix).f0.f2 (rd_T55 ms ix).f1.f0 (rd_T55 ms ix).f1.f1 (rd_T55 ms ix).f1.f2 (rd_T55 ms ix).f2 (rd_T55 ms ix).f3 (rd_T55 ms ix).f4 n _ HL.out).mono ?_
       rintro e w3 ⟨rfl, hb⟩
       refine ⟨_, rfl, ?_⟩
       refine hK.out _ _ ⟨below_step hHeld.1 hb, pw_cell_below (below_step hHeld.1 hb) hc0, pw_cell_below (below_step hHeld.1 hb) hc4, pw_cell_below (below_step hHeld.1 hb) hx0, pw_cell_below (below_step hHeld.1 hb) hx1, pw_cell_below (below_step hHeld.1 hb) hx2, pw_cell_below (below_step hHeld.1 hb) hx3, pw_cell_below (below_step hHeld.1 hb) hx4, pw_cell_below (below_step hHeld.1 hb) hx5, pw_cell_below (below_step hHeld.1 hb) hx6, pw_cell_below (below_step hHeld.1 hb) hx7, pw_cell_below (below_step hHeld.1 hb) hx8⟩ (fun hHeld => ?_)
       clear hK K
       refine norm_ (a' := ?_) ?_ ?_
       rotate_left
       · show Act.put _ (some 23) _ = _
         simp only [Act.put, List.setIfInBounds_toArray, List.set_cons_zero, List.set_cons_succ, i64_w, i32_w]
         rfl
       refine pu 22 24 (bzz 24 8388607) (by kernel_rfl) ?_
       refine pu 23 25 (bzz 24 16777215) (by kernel_rfl) ?_
       refine done_ (by kernel_rfl) ?_
       have hd : w3.cell? ⟨g, 4, none⟩ = some (.int .i64 ix) := hHeld.2.2.1
       have hf : w3.frozen? ⟨g, 4, none⟩ = false := blk_frozen (blk_below BKg.out hHeld.1) 4
       have HB3 := Aside0.mk hHeld.1
       clear hHeld hx0 hx1 hx2 hx3 hx4 hx5 hx6 hx7 hx8 hc0 hc4 hf4
       go_wp2
       go_roundg k1
       case measure => have := HK.out; omega
       case rel => exact ⟨_, ⟨HJ.out.1⟩, ⟨by have := HK.out; omega⟩, ⟨HJ.out.2⟩, ⟨(HS.out.below HB3.out).set_ 4 _ (fun _ _ _ => rfl) rfl rfl rfl⟩, ⟨(below_then HB.out HS.out.le HB3.out).setCell GEg.out _⟩⟩
     · rw [if_neg c2] at h
       have c2b : (n == 0) = false := beq_eq_false_iff_ne.mpr c2
       clear c2
       have h := h.symm
       subst h
       go_upto_region 0 with (fail)
       refine start_ (n := 24) (S := fun w' => Below wr.heap.size wr w' ∧ w'.cell? ⟨g, 0, none⟩ = some (.slice (some ad) ms.length cM) ∧ w'.cell? ⟨g, 4, none⟩ = some (.int .i64 ix) ∧ w'.cell? (ad.add (ix.toNat * 9)) = some (.int .i64 (rd_T55 ms ix).f0.f0) ∧ w'.cell? ⟨(ad.add (ix.toNat * 9)).block, (ad.add (ix.toNat * 9)).off + 1, none⟩ = some (.int .i64 (rd_T55 ms ix).f0.f1) ∧ w'.cell? ⟨(ad.add (ix.toNat * 9)).block, (ad.add (ix.toNat * 9)).off + 2, none⟩ = some (.int .i64 (rd_T55 ms ix).f0.f2) ∧ w'.cell? ⟨(ad.add (ix.toNat * 9)).block, (ad.add (ix.toNat * 9)).off + 3, none⟩ = some (.int .i64 (rd_T55 ms ix).f1.f0) ∧ w'.cell? ⟨(ad.add (ix.toNat * 9)).block, (ad.add (ix.toNat * 9)).off + 4, none⟩ = some (.int .i64 (rd_T55 ms ix).f1.f1) ∧ w'.cell? ⟨(ad.add (ix.toNat * 9)).block, (ad.add (ix.toNat * 9)).off + 5, none⟩ = some (.int .i64 (rd_T55 ms ix).f1.f2) ∧ w'.cell? ⟨(ad.add (ix.toNat * 9)).block, (ad.add (ix.toNat * 9)).off + 6, none⟩ = some (.int .i64 (rd_T55 ms ix).f2) ∧ w'.cell? ⟨(ad.add (ix.toNat * 9)).block, (ad.add (ix.toNat * 9)).off + 7, none⟩ = some (.int .i64 (rd_T55 ms ix).f3) ∧ w'.cell? ⟨(ad.add (ix.toNat * 9)).block, (ad.add (ix.toNat * 9)).off + 8, none⟩ = some (.int .i64 (rd_T55 ms ix).f4)) (ds := []) #[false, false, false, false, false, false, false, false, false, false, false, false, false, false, false, false, false, false, false, false, false, false, false, false] (by kernel_rfl) rfl rfl ⟨below_drew (Below.refl _ _), pw_cell_below (below_drew (Below.refl _ _)) hc0, pw_cell_below (below_drew (Below.refl _ _)) hc4, pw_cell_below (below_drew (Below.refl _ _)) hx0, pw_cell_below (below_drew (Below.refl _ _)) hx1, pw_cell_below (below_drew (Below.refl _ _)) hx2, pw_cell_below (below_drew (Below.refl _ _)) hx3, pw_cell_below (below_drew (Below.refl _ _)) hx4, pw_cell_below (below_drew (Below.refl _ _)) hx5, pw_cell_below (below_drew (Below.refl _ _)) hx6, pw_cell_below (below_drew (Below.refl _ _)) hx7, pw_cell_below (below_drew (Below.refl _ _)) hx8⟩ (fun hHeld => ?_)
       refine pu 0 2 (bzz 24 1) (by kernel_rfl) ?_
       refine pu 1 3 (bzz 24 3) (by kernel_rfl) ?_
       refine pu 2 4 (bzz 24 7) (by kernel_rfl) ?_
       refine pu 4 6 (bzz 24 23) (by kernel_rfl) ?_
       refine pu 5 7 (bzz 24 55) (by kernel_rfl) ?_
       refine pu 6 8 (bzz 24 119) (by kernel_rfl) ?_
       refine ta 3 5 (bzz 24 127) (by kernel_rfl) hHeld ?_
       refine ta 7 9 (bzz 24 255) (by kernel_rfl) hHeld ?_
       refine pu 8 10 (bzz 24 511) (by kernel_rfl) ?_
       refine pu 9 11 (bzz 24 1023) (by kernel_rfl) ?_
       refine pu 10 12 (bzz 24 2047) (by kernel_rfl) ?_
       refine pu 11 13 (bzz 24 4095) (by kernel_rfl) ?_
       refine pu 12 14 (bzz 24 8191) (by kernel_rfl) ?_
       refine pu 13 15 (bzz 24 16383) (by kernel_rfl) ?_
       refine pu 15 17 (bzz 24 49151) (by kernel_rfl) ?_
       refine pu 16 18 (bzz 24 114687) (by kernel_rfl) ?_
       refine pu 17 19 (bzz 24 245759) (by kernel_rfl) ?_
       refine ta 14 16 (bzz 24 262143) (by kernel_rfl) hHeld ?_
       refine ta 18 20 (bzz 24 524287) (by kernel_rfl) hHeld ?_
       refine pu 19 21 (bzz 24 1048575) (by kernel_rfl) ?_
       refine ta 20 22 (bzz 24 2097151) (by kernel_rfl) hHeld ?_
       refine one_ (i := 21) (N := some 23) (bzz 24 4194303) rfl rfl (by kernel_rfl) (by decide) (fun K hK => ?_)
       refine goes_ Try.func32 (by kernel_rfl) rfl #[.agg #[.int .i64 (rd_T55 ms ix).f0.f0, .int .i64 (rd_T55 ms ix).f0.f1, .int .i64 (rd_T55 ms ix).f0.f2, .int .i64 (rd_T55 ms ix).f1.f0, .int .i64 (rd_T55 ms ix).f1.f1, .int .i64 (rd_T55 ms ix).f1.f2, .int .i64 (rd_T55 ms ix).f2, .int .i64 (rd_T55 ms ix).f3, .int .i64 (rd_T55 ms ix).f4]] (by rfl) rfl rfl (by simp only [List.map_toArray, List.map_cons, List.map_nil]; rfl) ?_
       with_reducible refine (controller_length.calls q (rd_T55 ms ix).f0.f0 (rd_T55 ms ix).f0.f1 (rd_T55 ms ix).f0.f2 (rd_T55 ms ix).f1.f0 (rd_T55 ms ix).f1.f1 (rd_T55 ms ix).f1.f2 (rd_T55 ms ix).f2 (rd_T55 ms ix).f3 (rd_T55 ms ix).f4 n _ HL.out).mono ?_
       rintro e w3 ⟨rfl, hb⟩
       refine ⟨_, rfl, ?_⟩
       refine hK.out _ _ ⟨below_step hHeld.1 hb, pw_cell_below (below_step hHeld.1 hb) hc0, pw_cell_below (below_step hHeld.1 hb) hc4, pw_cell_below (below_step hHeld.1 hb) hx0, pw_cell_below (below_step hHeld.1 hb) hx1, pw_cell_below (below_step hHeld.1 hb) hx2, pw_cell_below (below_step hHeld.1 hb) hx3, pw_cell_below (below_step hHeld.1 hb) hx4, pw_cell_below (below_step hHeld.1 hb) hx5, pw_cell_below (below_step hHeld.1 hb) hx6, pw_cell_below (below_step hHeld.1 hb) hx7, pw_cell_below (below_step hHeld.1 hb) hx8⟩ (fun hHeld => ?_)
       clear hK K
       refine norm_ (a' := ?_) ?_ ?_
       rotate_left
       · show Act.put _ (some 23) _ = _
         simp only [Act.put, List.setIfInBounds_toArray, List.set_cons_zero, List.set_cons_succ, i64_w, i32_w]
         rfl
       refine pu 22 24 (bzz 24 8388607) (by kernel_rfl) ?_
       refine pu 23 25 (bzz 24 16777215) (by kernel_rfl) ?_
       refine done_ (by kernel_rfl) ?_
       have HB3 := Aside0.mk hHeld.1
       clear hHeld hx0 hx1 hx2 hx3 hx4 hx5 hx6 hx7 hx8 hc0 hc4 hf4
       go_wp2
       go_end0
       exact ⟨rfl, HS.out.below HB3.out, below_then HB.out HS.out.le HB3.out⟩
   · rw [if_neg c1] at h
     have h := h.symm
     subst h
     have c1b : decide (ix < (ms.length : Int)) = false := decide_eq_false c1
     clear c1
     go_upto_region 0 with (fail)
     refine start_ (n := 24) (S := fun w' => Below wr.heap.size wr w' ∧ w'.cell? ⟨g, 0, none⟩ = some (.slice AM ms.length cM) ∧ w'.cell? ⟨g, 4, none⟩ = some (.int .i64 ix)) (ds := []) #[false, false, false, false, false, false, false, false, false, false, false, false, false, false, false, false, false, false, false, false, false, false, false, false] (by kernel_rfl) rfl rfl ⟨below_drew (Below.refl _ _), pw_cell_below (below_drew (Below.refl _ _)) hc0, pw_cell_below (below_drew (Below.refl _ _)) hc4⟩ (fun hHeld => ?_)
     refine pu 0 2 (bzz 24 1) (by kernel_rfl) ?_
     refine pu 1 3 (bzz 24 3) (by kernel_rfl) ?_
     refine pu 2 4 (bzz 24 7) (by kernel_rfl) ?_
     refine pu 4 6 (bzz 24 23) (by kernel_rfl) ?_
     refine pu 5 7 (bzz 24 55) (by kernel_rfl) ?_
     refine pu 6 8 (bzz 24 119) (by kernel_rfl) ?_
     refine ta 3 5 (bzz 24 127) (by kernel_rfl) hHeld ?_
     refine ta 7 9 (bzz 24 255) (by kernel_rfl) hHeld ?_
     refine pu 8 10 (bzz 24 511) (by kernel_rfl) ?_
     refine pu 9 11 (bzz 24 1023) (by kernel_rfl) ?_
     refine pu 10 12 (bzz 24 2047) (by kernel_rfl) ?_
     refine po 11 13 (bzz 24 4095) (by kernel_rfl) ?_
     refine po 12 14 (bzz 24 8191) (by kernel_rfl) ?_
     refine po 13 15 (bzz 24 16383) (by kernel_rfl) ?_
     refine po 14 16 (bzz 24 32767) (by kernel_rfl) ?_
     refine po 15 17 (bzz 24 65535) (by kernel_rfl) ?_
     refine po 16 18 (bzz 24 131071) (by kernel_rfl) ?_
     refine po 17 19 (bzz 24 262143) (by kernel_rfl) ?_
     refine po 18 20 (bzz 24 524287) (by kernel_rfl) ?_
     refine po 19 21 (bzz 24 1048575) (by kernel_rfl) ?_
     refine po 20 22 (bzz 24 2097151) (by kernel_rfl) ?_
     refine po 21 23 (bzz 24 4194303) (by kernel_rfl) ?_
     refine po 22 24 (bzz 24 8388607) (by kernel_rfl) ?_
     refine pu 23 25 (bzz 24 16777215) (by kernel_rfl) ?_
     refine done_ (by kernel_rfl) ?_
     have HB3 := Aside0.mk hHeld.1
     clear hHeld hc0 hc4 hf4
     go_wp2
     go_end0
     exact ⟨rfl, HS.out.below HB3.out, below_then HB.out HS.out.le HB3.out⟩
end Go.Proofs.Ytmaegpblaihepaa.F
