/- resting, Index, Resume, left, by contracts. -/
import Derived.Test.YtmaegpblaihepaaWc
import Derived.Test.YtmaegpblaihepaaCt
import Derived.Test.YtmaegpblaihepaaFx22
namespace Go.Proofs.Ytmaegpblaihepaa.F
open Go.RowKit Go.Proofs.YtmaegpblaihepaaW.PrintWords Go.Proofs.YtmaegpblaihepaaW.PrintLast Go.Proofs.YtmaegpblaihepaaW.PrintMore
attribute [local go_sem] max2_int min2_int max_two min_two max_three min_three max_four min_four
set_option linter.unusedVariables false
set_option linter.unusedSimpArgs false
set_option maxRecDepth 100000 in
set_option maxHeartbeats 8000000 in
theorem controller_resting.calls (b : Bool) {B g : Nat} {s : CS} {w : World} (hs : Ctl B w g s) (hb_ : (s.at_ == (s.pl.length : Int)) = b) : Calls Try.prog 24 #[.pointer (some ⟨g, 0, none⟩)] w fun e w' => e = .returned (.bool b) ∧ Below w.heap.size w w' := by
 obtain ⟨ms, sp, ac, je, ix, pt, pl, at_, bra, held, brk, pcs, lx, ly, lz⟩ := s
 obtain ⟨hBg, AM, cM, AP, cP, AQ, cQ, hbox, hm1, hp1, hq1, hM, hP, hQ⟩ := hs.open_
 dsimp only at hbox hm1 hp1 hq1 hM hP hQ hb_ ⊢
 have HS := Aside0.mk hs
 have BKg := Aside0.mk hbox
 have RM := Aside0.mk hM
 have RP := Aside0.mk hP
 have RQ := Aside0.mk hQ
 have GEg := Aside0.mk hBg
 have HM1 := Aside0.mk hm1
 have HP1 := Aside0.mk hp1
 have HQ1 := Aside0.mk hq1
 clear hs hbox hM hP hQ hBg hm1 hp1 hq1
 have hc6 : w.cell? ⟨g, 6, none⟩ = some (.slice AP pl.length cP) := (blk_cell BKg.out 6).trans rfl
 have hc7 : w.cell? ⟨g, 7, none⟩ = some (.int .i64 at_) := (blk_cell BKg.out 7).trans rfl
 go_enter Try.func24, Try.ntmps24
 go_upto_region 1 with (fail)
 refine start_ (n := 11) (S := fun w' => Below w.heap.size w w' ∧ w'.cell? ⟨g, 6, none⟩ = some (.slice AP pl.length cP) ∧ w'.cell? ⟨g, 7, none⟩ = some (.int .i64 at_)) (ds := []) #[false, false, false, false, false, false, false, false, false, false, false] (by kernel_rfl) rfl rfl ⟨below_drew (Below.refl _ _), pw_cell_below (below_drew (Below.refl _ _)) hc6, pw_cell_below (below_drew (Below.refl _ _)) hc7⟩ (fun hHeld => ?_)
 refine pu 0 3 (bzz 11 1) (by kernel_rfl) ?_
 refine pu 1 4 (bzz 11 3) (by kernel_rfl) ?_
 refine pu 2 5 (bzz 11 7) (by kernel_rfl) ?_
 refine pu 4 7 (bzz 11 23) (by kernel_rfl) ?_
 refine pu 5 8 (bzz 11 55) (by kernel_rfl) ?_
 refine pu 6 9 (bzz 11 119) (by kernel_rfl) ?_
 refine ta 3 6 (bzz 11 127) (by kernel_rfl) hHeld ?_
 refine ta 7 10 (bzz 11 255) (by kernel_rfl) hHeld ?_
 refine pu 8 11 (bzz 11 511) (by kernel_rfl) ?_
 refine pu 9 12 (bzz 11 1023) (by kernel_rfl) ?_
 refine pu 10 2 (bzz 11 2047) (by kernel_rfl) ?_
 refine done_ (by kernel_rfl) ?_
 go_wp2
 go_ret
 exact ⟨rfl, hHeld.1⟩
set_option maxRecDepth 100000 in
set_option maxHeartbeats 8000000 in
theorem controller_Index.calls {B g : Nat} {s : CS} {w : World} (hs : Ctl B w g s) : Calls Try.prog 11 #[.pointer (some ⟨g, 0, none⟩)] w fun e w' => e = .returned (.int .i64 s.ix) ∧ Below w.heap.size w w' := by
 obtain ⟨ms, sp, ac, je, ix, pt, pl, at_, bra, held, brk, pcs, lx, ly, lz⟩ := s
 obtain ⟨hBg, AM, cM, AP, cP, AQ, cQ, hbox, hm1, hp1, hq1, hM, hP, hQ⟩ := hs.open_
 dsimp only at hbox hm1 hp1 hq1 hM hP hQ ⊢
 have HS := Aside0.mk hs
 have BKg := Aside0.mk hbox
 have RM := Aside0.mk hM
 have RP := Aside0.mk hP
 have RQ := Aside0.mk hQ
 have GEg := Aside0.mk hBg
 have HM1 := Aside0.mk hm1
 have HP1 := Aside0.mk hp1
 have HQ1 := Aside0.mk hq1
 clear hs hbox hM hP hQ hBg hm1 hp1 hq1
 have hc4 : w.cell? ⟨g, 4, none⟩ = some (.int .i64 ix) := (blk_cell BKg.out 4).trans rfl
 go_enter Try.func11, Try.ntmps11
 go_wp2
 go_ret
 exact ⟨rfl, Below.refl _ _⟩
set_option maxRecDepth 100000 in
set_option maxHeartbeats 8000000 in
theorem controller_Resume.calls {B g : Nat} {s : CS} {w : World} (hs : Ctl B w g s) : Calls Try.prog 12 #[.pointer (some ⟨g, 0, none⟩)] w fun e w' => e = .returned (.tuple #[]) ∧ Ctl B w' g { s with held := false } ∧ Below B w w' := by
 obtain ⟨ms, sp, ac, je, ix, pt, pl, at_, bra, held, brk, pcs, lx, ly, lz⟩ := s
 obtain ⟨hBg, AM, cM, AP, cP, AQ, cQ, hbox, hm1, hp1, hq1, hM, hP, hQ⟩ := hs.open_
 dsimp only at hbox hm1 hp1 hq1 hM hP hQ ⊢
 have HS := Aside0.mk hs
 have BKg := Aside0.mk hbox
 have RM := Aside0.mk hM
 have RP := Aside0.mk hP
 have RQ := Aside0.mk hQ
 have GEg := Aside0.mk hBg
 have HM1 := Aside0.mk hm1
 have HP1 := Aside0.mk hp1
 have HQ1 := Aside0.mk hq1
 clear hs hbox hM hP hQ hBg hm1 hp1 hq1
 have hc9 : w.cell? ⟨g, 9, none⟩ = some (.bool held) := (blk_cell BKg.out 9).trans rfl
 have hf9 := blk_frozen BKg.out 9
 go_enter Try.func12, Try.ntmps12
 go_wp2
 go_end0
 exact ⟨rfl, HS.out.set_ 9 _ (fun _ _ _ => rfl) rfl rfl rfl, (Below.refl _ _).setCell HS.out.1 _⟩
set_option maxRecDepth 100000 in
set_option maxHeartbeats 8000000 in
theorem controller_left.calls (k : Nat) (n : Int) {B g : Nat} {s : CS} {w : World} (hs : Ctl B w g s) (h0 : 0 ≤ s.ix) (h1 : s.ix < (s.ms.length : Int)) (hl : controller_length.f k (rd_T55 s.ms s.ix).f0.f0 (rd_T55 s.ms s.ix).f0.f1 (rd_T55 s.ms s.ix).f0.f2 (rd_T55 s.ms s.ix).f1.f0 (rd_T55 s.ms s.ix).f1.f1 (rd_T55 s.ms s.ix).f1.f2 (rd_T55 s.ms s.ix).f2 (rd_T55 s.ms s.ix).f3 (rd_T55 s.ms s.ix).f4 = some n) : Calls Try.prog 26 #[.pointer (some ⟨g, 0, none⟩)] w fun e w' => e = .returned (.int .i64 (wrap64 (n - s.pt))) ∧ Below w.heap.size w w' := by
 obtain ⟨ms, sp, ac, je, ix, pt, pl, at_, bra, held, brk, pcs, lx, ly, lz⟩ := s
 obtain ⟨hBg, AM, cM, AP, cP, AQ, cQ, hbox, hm1, hp1, hq1, hM, hP, hQ⟩ := hs.open_
 dsimp only at hbox hm1 hp1 hq1 hM hP hQ h0 h1 hl ⊢
 have HS := Aside0.mk hs
 have BKg := Aside0.mk hbox
 have RM := Aside0.mk hM
 have RP := Aside0.mk hP
 have RQ := Aside0.mk hQ
 have GEg := Aside0.mk hBg
 have HM1 := Aside0.mk hm1
 have HP1 := Aside0.mk hp1
 have HQ1 := Aside0.mk hq1
 clear hs hbox hM hP hQ hBg hm1 hp1 hq1
 have hc0 : w.cell? ⟨g, 0, none⟩ = some (.slice AM ms.length cM) := (blk_cell BKg.out 0).trans rfl
 have hc4 : w.cell? ⟨g, 4, none⟩ = some (.int .i64 ix) := (blk_cell BKg.out 4).trans rfl
 have hc5 : w.cell? ⟨g, 5, none⟩ = some (.int .i64 pt) := (blk_cell BKg.out 5).trans rfl
 obtain ⟨ad, ea_, hx0, hx1, hx2, hx3, hx4, hx5, hx6, hx7, hx8⟩ := at_T55 (Kd.R_reads' RM.out).2.2 ix h0 h1
 subst ea_
 have HL := Aside0.mk hl
 clear hl
 replace h0 := eq_true h0
 replace h1 := eq_true h1
 go_enter Try.func26, Try.ntmps26
 go_upto_region 1 with (fail)
 refine start_ (n := 17) (S := fun w' => Below w.heap.size w w' ∧ w'.cell? ⟨g, 0, none⟩ = some (.slice (some ad) ms.length cM) ∧ w'.cell? ⟨g, 4, none⟩ = some (.int .i64 ix) ∧ w'.cell? ⟨g, 5, none⟩ = some (.int .i64 pt) ∧ w'.cell? (ad.add (ix.toNat * 9)) = some (.int .i64 (rd_T55 ms ix).f0.f0) ∧ w'.cell? ⟨(ad.add (ix.toNat * 9)).block, (ad.add (ix.toNat * 9)).off + 1, none⟩ = some (.int .i64 (rd_T55 ms ix).f0.f1) ∧ w'.cell? ⟨(ad.add (ix.toNat * 9)).block, (ad.add (ix.toNat * 9)).off + 2, none⟩ = some (.int .i64 (rd_T55 ms ix).f0.f2) ∧ w'.cell? ⟨(ad.add (ix.toNat * 9)).block, (ad.add (ix.toNat * 9)).off + 3, none⟩ = some (.int .i64 (rd_T55 ms ix).f1.f0) ∧ w'.cell? ⟨(ad.add (ix.toNat * 9)).block, (ad.add (ix.toNat * 9)).off + 4, none⟩ = some (.int .i64 (rd_T55 ms ix).f1.f1) ∧ w'.cell? ⟨(ad.add (ix.toNat * 9)).block, (ad.add (ix.toNat * 9)).off + 5, none⟩ = some (.int .i64 (rd_T55 ms ix).f1.f2) ∧ w'.cell? ⟨(ad.add (ix.toNat * 9)).block, (ad.add (ix.toNat * 9)).off + 6, none⟩ = some (.int .i64 (rd_T55 ms ix).f2) ∧ w'.cell? ⟨(ad.add (ix.toNat * 9)).block, (ad.add (ix.toNat * 9)).off + 7, none⟩ = some (.int .i64 (rd_T55 ms ix).f3) ∧ w'.cell? ⟨(ad.add (ix.toNat * 9)).block, (ad.add (ix.toNat * 9)).off + 8, none⟩ = some (.int .i64 (rd_T55 ms ix).f4)) (ds := []) #[false, false, false, false, false, false, false, false, false, false, false, false, false, false, false, false, false] (by kernel_rfl) rfl rfl ⟨below_drew (Below.refl _ _), pw_cell_below (below_drew (Below.refl _ _)) hc0, pw_cell_below (below_drew (Below.refl _ _)) hc4, pw_cell_below (below_drew (Below.refl _ _)) hc5, pw_cell_below (below_drew (Below.refl _ _)) hx0, pw_cell_below (below_drew (Below.refl _ _)) hx1, pw_cell_below (below_drew (Below.refl _ _)) hx2, pw_cell_below (below_drew (Below.refl _ _)) hx3, pw_cell_below (below_drew (Below.refl _ _)) hx4, pw_cell_below (below_drew (Below.refl _ _)) hx5, pw_cell_below (below_drew (Below.refl _ _)) hx6, pw_cell_below (below_drew (Below.refl _ _)) hx7, pw_cell_below (below_drew (Below.refl _ _)) hx8⟩ (fun hHeld => ?_)
 refine pu 0 3 (bzz 17 1) (by kernel_rfl) ?_
 refine pu 1 4 (bzz 17 3) (by kernel_rfl) ?_
 refine pu 2 5 (bzz 17 7) (by kernel_rfl) ?_
 refine pu 4 7 (bzz 17 23) (by kernel_rfl) ?_
 refine pu 5 8 (bzz 17 55) (by kernel_rfl) ?_
 refine pu 6 9 (bzz 17 119) (by kernel_rfl) ?_
 refine pu 11 14 (bzz 17 2167) (by kernel_rfl) ?_
 refine pu 12 15 (bzz 17 6263) (by kernel_rfl) ?_
 refine pu 13 16 (bzz 17 14455) (by kernel_rfl) ?_
 refine ta 3 6 (bzz 17 14463) (by kernel_rfl) hHeld ?_
 refine ta 7 10 (bzz 17 14591) (by kernel_rfl) hHeld ?_
 refine pu 8 11 (bzz 17 14847) (by kernel_rfl) ?_
 refine ta 9 12 (bzz 17 15359) (by kernel_rfl) hHeld ?_
 refine ta 14 17 (bzz 17 31743) (by kernel_rfl) hHeld ?_
 refine one_ (i := 10) (N := some 13) (bzz 17 32767) rfl rfl (by kernel_rfl) (by decide) (fun K hK => ?_)
 refine goes_ Try.func32 (by kernel_rfl) rfl #[.agg #[.int .i64 (rd_T55 ms ix).f0.f0, .int .i64 (rd_T55 ms ix).f0.f1, .int .i64 (rd_T55 ms ix).f0.f2, .int .i64 (rd_T55 ms ix).f1.f0, .int .i64 (rd_T55 ms ix).f1.f1, .int .i64 (rd_T55 ms ix).f1.f2, .int .i64 (rd_T55 ms ix).f2, .int .i64 (rd_T55 ms ix).f3, .int .i64 (rd_T55 ms ix).f4]] (by rfl) rfl rfl (by simp only [List.map_toArray, List.map_cons, List.map_nil]; rfl) ?_
 with_reducible refine (controller_length.calls k (rd_T55 ms ix).f0.f0 (rd_T55 ms ix).f0.f1 (rd_T55 ms ix).f0.f2 (rd_T55 ms ix).f1.f0 (rd_T55 ms ix).f1.f1 (rd_T55 ms ix).f1.f2 (rd_T55 ms ix).f2 (rd_T55 ms ix).f3 (rd_T55 ms ix).f4 n _ HL.out).mono ?_
 rintro e w3 ⟨rfl, hb⟩
 refine ⟨_, rfl, ?_⟩
 refine hK.out _ _ ⟨below_step hHeld.1 hb, pw_cell_below (below_step hHeld.1 hb) hc0, pw_cell_below (below_step hHeld.1 hb) hc4, pw_cell_below (below_step hHeld.1 hb) hc5, pw_cell_below (below_step hHeld.1 hb) hx0, pw_cell_below (below_step hHeld.1 hb) hx1, pw_cell_below (below_step hHeld.1 hb) hx2, pw_cell_below (below_step hHeld.1 hb) hx3, pw_cell_below (below_step hHeld.1 hb) hx4, pw_cell_below (below_step hHeld.1 hb) hx5, pw_cell_below (below_step hHeld.1 hb) hx6, pw_cell_below (below_step hHeld.1 hb) hx7, pw_cell_below (below_step hHeld.1 hb) hx8⟩ (fun hHeld => ?_)
 clear hK K
 refine norm_ (a' := ?_) ?_ ?_
 rotate_left
 · show Act.put _ (some 13) _ = _
   simp only [Act.put, List.setIfInBounds_toArray, List.set_cons_zero, List.set_cons_succ, i64_w, i32_w]
   rfl
 refine pu 15 18 (bzz 17 65535) (by kernel_rfl) ?_
 refine pu 16 2 (bzz 17 131071) (by kernel_rfl) ?_
 refine done_ (by kernel_rfl) ?_
 go_wp2
 go_ret
 exact ⟨rfl, hHeld.1⟩
end Go.Proofs.Ytmaegpblaihepaa.F
