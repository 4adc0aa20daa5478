/- Tick, by contracts. -/
import Derived.Test.YtmaegpblaihepaaWc
import Derived.Test.YtmaegpblaihepaaT6
import Derived.Test.YtmaegpblaihepaaFx19
import Derived.Test.YtmaegpblaihepaaFx18
namespace Go.Proofs.Ytmaegpblaihepaa.F
open Go.RowKit Go.Proofs.YtmaegpblaihepaaW.PrintWords Go.Proofs.YtmaegpblaihepaaW.PrintLast Go.Proofs.YtmaegpblaihepaaW.PrintMore
attribute [local go_sem] max2_int min2_int max_two min_two max_three min_three max_four min_four
set_option linter.unusedVariables false
set_option linter.unusedSimpArgs false
/-- what a tick begins with: a plan that is not at its end -/
def BeginP (s s1 : CS) : Prop := s.brk = false ∧ 0 ≤ s.ix ∧ s.ix < (s.ms.length : Int) ∧ ((s.at_ ≠ (s.pl.length : Int) ∧ s1 = s) ∨ (s.at_ = (s.pl.length : Int) ∧ s.held = false ∧ ∃ k n r1 r2 r3 q plan, controller_length.f k (rd_T55 s.ms s.ix).f0.f0 (rd_T55 s.ms s.ix).f0.f1 (rd_T55 s.ms s.ix).f0.f2 (rd_T55 s.ms s.ix).f1.f0 (rd_T55 s.ms s.ix).f1.f1 (rd_T55 s.ms s.ix).f1.f2 (rd_T55 s.ms s.ix).f2 (rd_T55 s.ms s.ix).f3 (rd_T55 s.ms s.ix).f4 = some n ∧ controller_limit.f (rd_T55 s.ms s.ix).f0.f0 (rd_T55 s.ms s.ix).f0.f1 (rd_T55 s.ms s.ix).f0.f2 (rd_T55 s.ms s.ix).f1.f0 (rd_T55 s.ms s.ix).f1.f1 (rd_T55 s.ms s.ix).f1.f2 (rd_T55 s.ms s.ix).f2 (rd_T55 s.ms s.ix).f3 (rd_T55 s.ms s.ix).f4 s.sp s.ac s.je = some (r1, r2, r3) ∧ profile_Steps.f q (wrap64 (n - s.pt)) r1 r2 r3 = some (plan, 0) ∧ (plan.length : Int) ≠ 0 ∧ s1 = { s with pl := plan, at_ := 0, bra := false }))
def AdvP (s s' : CS) : Prop := 0 ≤ s.at_ ∧ s.at_ < (s.pl.length : Int) ∧ (if wrap64 (s.at_ + 1) = (s.pl.length : Int) then StopP { s with pt := wrap64 (s.pt + rd s.pl s.at_), at_ := wrap64 (s.at_ + 1) } s' else s' = { s with pt := wrap64 (s.pt + rd s.pl s.at_), at_ := wrap64 (s.at_ + 1) })
theorem at_int {w : World} {A : Option Addr} {n : Nat} {xs : List Int} (h : Kd.C (Kd.int .i64) w A n xs) (i : Int) (h0 : 0 ≤ i) (h1 : i < n) : ∃ ad, A = some ad ∧ w.cell? (ad.add i.toNat) = some (.int .i64 (rd xs i)) := ReadsOf.at_ (d := (0 : Int)) (Kd.reads_of_C h) i h0 h1
set_option maxRecDepth 100000 in
set_option maxHeartbeats 8000000 in
theorem controller_Tick.go (s' s1 : CS) {B g : Nat} {s : CS} {w : World} (hs : Ctl B w g s) (hb_ : BeginP s s1) (ha_ : AdvP s1 s') : Calls Try.prog 7 #[.pointer (some ⟨g, 0, none⟩)] w fun e w' => e = .returned (.bool true) ∧ Ctl B w' g s' ∧ Below B w w' := by
 unfold BeginP at hb_
 obtain ⟨hbrk, h0, h1, hb_⟩ := hb_
 have HS := Aside0.mk hs
 have HA := Aside0.mk ha_
 have HBg := Aside0.mk hb_
 have HBR := Aside0.mk hbrk
 have H0 := Aside0.mk h0
 have H1 := Aside0.mk h1
 clear hs ha_ hb_ hbrk h0 h1
 have hu55 := Try.underlying55
 have hu31 := Try.underlying31
 go_enter Try.func7, Try.ntmps7
 go_step
 go_step
 go_cut [] (fun wc => Aside0 (Ctl B wc g s) ∧ Aside0 (Below B w wc))
 case first =>
  go_wp2
  go_meet
  case rel => exact ⟨HS, ⟨Below.refl _ _⟩⟩
 case rest =>
  clear HS
  obtain ⟨HS, HB⟩ := hcut
  go_step
  go_step
  go_cut [] (fun wc => Aside0 (Ctl B wc g s) ∧ Aside0 (Below B w wc))
  case first =>
   obtain ⟨ms, sp, ac, je, ix, pt, pl, at_, bra, held, brk, pcs, lx, ly, lz⟩ := s
   have hbrk : brk = false := HBR.out
   subst hbrk
   have h1 : ix < (ms.length : Int) := H1.out
   have hib : (ix == (ms.length : Int)) = false := beq_eq_false_iff_ne.mpr (by omega)
   clear h1
   go_upto_region 1 with (fail)
   obtain ⟨hBg, AM, cM, AP, cP, AQ, cQ, hbox, hm1, hp1, hq1, hM, hP, hQ⟩ := HS.out.open_
   dsimp only at hbox hm1 hp1 hq1 hM hP hQ
   have HS := Aside0.mk HS.out
   have BKg := Aside0.mk hbox
   have RM := Aside0.mk hM
   have RP := Aside0.mk hP
   have RQ := Aside0.mk hQ
   have GEg := Aside0.mk hBg
   have HM1 := Aside0.mk hm1
   have HP1 := Aside0.mk hp1
   have HQ1 := Aside0.mk hq1
   clear HS hbox hM hP hQ hBg hm1 hp1 hq1
   have hc0 : wc.cell? ⟨g, 0, none⟩ = some (.slice AM ms.length cM) := (blk_cell BKg.out 0).trans rfl
   have hc4 : wc.cell? ⟨g, 4, none⟩ = some (.int .i64 ix) := (blk_cell BKg.out 4).trans rfl
   have hc10 : wc.cell? ⟨g, 10, none⟩ = some (.bool false) := (blk_cell BKg.out 10).trans rfl
   refine start_ (n := 16) (S := fun w' => Below wc.heap.size wc w' ∧ w'.cell? ⟨g, 0, none⟩ = some (.slice AM ms.length cM) ∧ w'.cell? ⟨g, 4, none⟩ = some (.int .i64 ix) ∧ w'.cell? ⟨g, 10, none⟩ = some (.bool false)) (ds := []) #[false, false, false, false, false, false, false, false, false, false, false, false, false, false, false, false] (by kernel_rfl) rfl rfl ⟨below_drew (Below.refl _ _), pw_cell_below (below_drew (Below.refl _ _)) hc0, pw_cell_below (below_drew (Below.refl _ _)) hc4, pw_cell_below (below_drew (Below.refl _ _)) hc10⟩ (fun hHeld => ?_)
   generalize World.drew _ = wd at hHeld ⊢
   refine pu 0 5 (bzz 16 1) (by kernel_rfl) ?_
   refine pu 1 6 (bzz 16 3) (by kernel_rfl) ?_
   refine pu 2 7 (bzz 16 7) (by kernel_rfl) ?_
   refine ta 3 8 (bzz 16 15) (by kernel_rfl) hHeld ?_
   refine pu 4 9 (bzz 16 31) (by kernel_rfl) ?_
   refine pu 5 10 (bzz 16 63) (by kernel_rfl) ?_
   refine pu 6 11 (bzz 16 127) (by kernel_rfl) ?_
   refine pu 7 12 (bzz 16 255) (by kernel_rfl) ?_
   refine pu 9 14 (bzz 16 767) (by kernel_rfl) ?_
   refine pu 10 15 (bzz 16 1791) (by kernel_rfl) ?_
   refine pu 11 16 (bzz 16 3839) (by kernel_rfl) ?_
   refine ta 8 13 (bzz 16 4095) (by kernel_rfl) hHeld ?_
   refine ta 12 17 (bzz 16 8191) (by kernel_rfl) hHeld ?_
   refine pu 13 18 (bzz 16 16383) (by kernel_rfl) ?_
   refine pu 14 19 (bzz 16 32767) (by kernel_rfl) ?_
   refine pu 15 20 (bzz 16 65535) (by kernel_rfl) ?_
   refine done_ (by kernel_rfl) ?_
   go_wp2
   go_meet
   case rel => exact ⟨⟨HS.out.below hHeld.1⟩, ⟨below_then HB.out HS.out.le hHeld.1⟩⟩
  case rest =>
   clear HS HB
   obtain ⟨HS, HB⟩ := hcut
   go_step
   go_step
   go_cut [] (fun wc => Aside0 (Ctl B wc g s1) ∧ Aside0 (Below B w wc))
   case first =>
    rcases HBg.out with ⟨hn, he⟩ | ⟨hat, hheld, k, n, r1, r2, r3, qq, plan, hl, hli, hst, hpn, he⟩
    · subst he
      have hnb : (s1.at_ == (s1.pl.length : Int)) = false := beq_eq_false_iff_ne.mpr hn
      go_wp2_with (first | (go_at_call 24; (with_reducible refine (controller_resting.calls false HS.out hnb).mono ?_); rintro e w2 ⟨rfl, hb⟩; have HS2 := Aside0.mk (HS.out.below hb); have HB2 := Aside0.mk (below_then HB.out HS.out.le hb); clear hb))
      go_meet
      case rel => exact ⟨HS2, HB2⟩
    · subst he
      clear HBg HA
      have hnb : (s.at_ == (s.pl.length : Int)) = true := beq_iff_eq.mpr hat
      have hpb : ((plan.length : Int) == 0) = false := beq_eq_false_iff_ne.mpr hpn
      have HL := Aside0.mk hl
      have HLI := Aside0.mk hli
      have HST := Aside0.mk hst
      clear hl hli hst hat hpn
      obtain ⟨ms, sp, ac, je, ix, pt, pl, at_, bra, held, brk, pcs, lx, ly, lz⟩ := s
      dsimp only at *
      have hh : held = false := hheld
      subst hh
      clear hheld
      go_upto_region 6 with (first | (go_at_call 24; (with_reducible refine (controller_resting.calls true HS.out hnb).mono ?_); rintro e w2 ⟨rfl, hb⟩; have HS2 := Aside0.mk (HS.out.below hb); have HB2 := Aside0.mk (below_then HB.out HS.out.le hb); clear hb; obtain ⟨hBg, AM, cM, AP, cP, AQ, cQ, hbox, hm1, hp1, hq1, hM, hP, hQ⟩ := HS2.out.open_; dsimp only at hbox hm1 hp1 hq1 hM hP hQ; have HS := Aside0.mk HS2.out; have BKg := Aside0.mk hbox; have RM := Aside0.mk hM; have RP := Aside0.mk hP; have RQ := Aside0.mk hQ; have GEg := Aside0.mk hBg; have HM1 := Aside0.mk hm1; have HP1 := Aside0.mk hp1; have HQ1 := Aside0.mk hq1; clear HS2 hbox hM hP hQ hBg hm1 hp1 hq1; have hc0 : w2.cell? ⟨g, 0, none⟩ = some (.slice AM ms.length cM) := (blk_cell BKg.out 0).trans rfl; have hc1 : w2.cell? ⟨g, 1, none⟩ = some (.int .i64 sp) := (blk_cell BKg.out 1).trans rfl; have hc2 : w2.cell? ⟨g, 2, none⟩ = some (.int .i64 ac) := (blk_cell BKg.out 2).trans rfl; have hc3 : w2.cell? ⟨g, 3, none⟩ = some (.int .i64 je) := (blk_cell BKg.out 3).trans rfl; have hc4 : w2.cell? ⟨g, 4, none⟩ = some (.int .i64 ix) := (blk_cell BKg.out 4).trans rfl; have hc9 : w2.cell? ⟨g, 9, none⟩ = some (.bool false) := (blk_cell BKg.out 9).trans rfl))
      obtain ⟨ad, ea_, hx0, hx1, hx2, hx3, hx4, hx5, hx6, hx7, hx8⟩ := at_T55 (Kd.R_reads' RM.out).2.2 ix H0.out H1.out
      subst ea_
      have h0 := eq_true H0.out
      have h1 := eq_true H1.out
      refine start_ (n := 23) (S := fun w' => Below w2.heap.size w2 w' ∧ w'.cell? ⟨g, 0, none⟩ = some (.slice (some ad) ms.length cM) ∧ w'.cell? ⟨g, 1, none⟩ = some (.int .i64 sp) ∧ w'.cell? ⟨g, 2, none⟩ = some (.int .i64 ac) ∧ w'.cell? ⟨g, 3, none⟩ = some (.int .i64 je) ∧ w'.cell? ⟨g, 4, none⟩ = some (.int .i64 ix) ∧ w'.cell? (ad.add (ix.toNat * 9)) = some (.int .i64 (rd_T55 ms ix).f0.f0) ∧ w'.cell? ⟨(ad.add (ix.toNat * 9)).block, (ad.add (ix.toNat * 9)).off + 1, none⟩ = some (.int .i64 (rd_T55 ms ix).f0.f1) ∧ w'.cell? ⟨(ad.add (ix.toNat * 9)).block, (ad.add (ix.toNat * 9)).off + 2, none⟩ = some (.int .i64 (rd_T55 ms ix).f0.f2) ∧ w'.cell? ⟨(ad.add (ix.toNat * 9)).block, (ad.add (ix.toNat * 9)).off + 3, none⟩ = some (.int .i64 (rd_T55 ms ix).f1.f0) ∧ w'.cell? ⟨(ad.add (ix.toNat * 9)).block, (ad.add (ix.toNat * 9)).off + 4, none⟩ = some (.int .i64 (rd_T55 ms ix).f1.f1) ∧ w'.cell? ⟨(ad.add (ix.toNat * 9)).block, (ad.add (ix.toNat * 9)).off + 5, none⟩ = some (.int .i64 (rd_T55 ms ix).f1.f2) ∧ w'.cell? ⟨(ad.add (ix.toNat * 9)).block, (ad.add (ix.toNat * 9)).off + 6, none⟩ = some (.int .i64 (rd_T55 ms ix).f2) ∧ w'.cell? ⟨(ad.add (ix.toNat * 9)).block, (ad.add (ix.toNat * 9)).off + 7, none⟩ = some (.int .i64 (rd_T55 ms ix).f3) ∧ w'.cell? ⟨(ad.add (ix.toNat * 9)).block, (ad.add (ix.toNat * 9)).off + 8, none⟩ = some (.int .i64 (rd_T55 ms ix).f4)) (ds := []) #[false, false, false, false, false, false, false, false, false, false, false, false, false, false, false, false, false, false, false, false, false, false, false] (by kernel_rfl) rfl rfl ⟨below_drew (Below.refl _ _), pw_cell_below (below_drew (Below.refl _ _)) hc0, pw_cell_below (below_drew (Below.refl _ _)) hc1, pw_cell_below (below_drew (Below.refl _ _)) hc2, pw_cell_below (below_drew (Below.refl _ _)) hc3, pw_cell_below (below_drew (Below.refl _ _)) hc4, pw_cell_below (below_drew (Below.refl _ _)) hx0, pw_cell_below (below_drew (Below.refl _ _)) hx1, pw_cell_below (below_drew (Below.refl _ _)) hx2, pw_cell_below (below_drew (Below.refl _ _)) hx3, pw_cell_below (below_drew (Below.refl _ _)) hx4, pw_cell_below (below_drew (Below.refl _ _)) hx5, pw_cell_below (below_drew (Below.refl _ _)) hx6, pw_cell_below (below_drew (Below.refl _ _)) hx7, pw_cell_below (below_drew (Below.refl _ _)) hx8⟩ (fun hHeld => ?_)
      generalize World.drew _ = wd at hHeld ⊢
      refine pu 0 28 (bzz 23 1) (by kernel_rfl) ?_
      refine pu 2 30 (bzz 23 5) (by kernel_rfl) ?_
      refine pu 3 31 (bzz 23 13) (by kernel_rfl) ?_
      refine pu 4 32 (bzz 23 29) (by kernel_rfl) ?_
      refine pu 6 34 (bzz 23 93) (by kernel_rfl) ?_
      refine pu 7 35 (bzz 23 221) (by kernel_rfl) ?_
      refine pu 8 36 (bzz 23 477) (by kernel_rfl) ?_
      refine pu 12 40 (bzz 23 4573) (by kernel_rfl) ?_
      refine pu 13 41 (bzz 23 12765) (by kernel_rfl) ?_
      refine pu 14 42 (bzz 23 29149) (by kernel_rfl) ?_
      refine ta 5 33 (bzz 23 29181) (by kernel_rfl) hHeld ?_
      refine ta 9 37 (bzz 23 29693) (by kernel_rfl) hHeld ?_
      refine pu 10 38 (bzz 23 30717) (by kernel_rfl) ?_
      refine ta 11 39 (bzz 23 32765) (by kernel_rfl) hHeld ?_
      refine ta 15 43 (bzz 23 65533) (by kernel_rfl) hHeld ?_
      refine one_ (i := 1) (N := some 29) (bzz 23 65535) rfl rfl (by kernel_rfl) (by decide) (fun K hK => ?_)
      refine goes_ Try.func26 (by kernel_rfl) rfl #[.pointer (some ⟨g, 0, none⟩)] (by rfl) rfl rfl (by simp only [List.map_toArray, List.map_cons, List.map_nil]; rfl) ?_
      with_reducible refine (controller_left.calls k n (HS.out.below hHeld.1) H0.out H1.out HL.out).mono ?_
      rintro e w3 ⟨rfl, hb⟩
      refine ⟨_, rfl, ?_⟩
      refine hK.out _ _ ⟨below_step hHeld.1 hb, pw_cell_below (below_step hHeld.1 hb) hc0, pw_cell_below (below_step hHeld.1 hb) hc1, pw_cell_below (below_step hHeld.1 hb) hc2, pw_cell_below (below_step hHeld.1 hb) hc3, pw_cell_below (below_step hHeld.1 hb) hc4, pw_cell_below (below_step hHeld.1 hb) hx0, pw_cell_below (below_step hHeld.1 hb) hx1, pw_cell_below (below_step hHeld.1 hb) hx2, pw_cell_below (below_step hHeld.1 hb) hx3, pw_cell_below (below_step hHeld.1 hb) hx4, pw_cell_below (below_step hHeld.1 hb) hx5, pw_cell_below (below_step hHeld.1 hb) hx6, pw_cell_below (below_step hHeld.1 hb) hx7, pw_cell_below (below_step hHeld.1 hb) hx8⟩ (fun hHeld => ?_)
      clear hK K
      refine norm_ (a' := ?_) ?_ ?_
      rotate_left
      · show Act.put _ (some 29) _ = _
        simp only [Act.put, List.setIfInBounds_toArray, List.set_cons_zero, List.set_cons_succ, i64_w, i32_w]
        rfl
      refine one_ (i := 16) (N := some 44) (bzz 23 131071) rfl rfl (by kernel_rfl) (by decide) (fun K hK => ?_)
      refine goes_ Try.func27 (by kernel_rfl) rfl #[.agg #[.int .i64 (rd_T55 ms ix).f0.f0, .int .i64 (rd_T55 ms ix).f0.f1, .int .i64 (rd_T55 ms ix).f0.f2, .int .i64 (rd_T55 ms ix).f1.f0, .int .i64 (rd_T55 ms ix).f1.f1, .int .i64 (rd_T55 ms ix).f1.f2, .int .i64 (rd_T55 ms ix).f2, .int .i64 (rd_T55 ms ix).f3, .int .i64 (rd_T55 ms ix).f4], .agg #[.int .i64 sp, .int .i64 ac, .int .i64 je]] (by rfl) rfl rfl (by simp only [List.map_toArray, List.map_cons, List.map_nil]; rfl) ?_
      with_reducible refine (controller_limit.calls (rd_T55 ms ix).f0.f0 (rd_T55 ms ix).f0.f1 (rd_T55 ms ix).f0.f2 (rd_T55 ms ix).f1.f0 (rd_T55 ms ix).f1.f1 (rd_T55 ms ix).f1.f2 (rd_T55 ms ix).f2 (rd_T55 ms ix).f3 (rd_T55 ms ix).f4 sp ac je r1 r2 r3 _ HLI.out).mono ?_
      rintro e w3 ⟨rfl, hb⟩
      refine ⟨_, rfl, ?_⟩
      refine hK.out _ _ ⟨below_step hHeld.1 hb, pw_cell_below (below_step hHeld.1 hb) hc0, pw_cell_below (below_step hHeld.1 hb) hc1, pw_cell_below (below_step hHeld.1 hb) hc2, pw_cell_below (below_step hHeld.1 hb) hc3, pw_cell_below (below_step hHeld.1 hb) hc4, pw_cell_below (below_step hHeld.1 hb) hx0, pw_cell_below (below_step hHeld.1 hb) hx1, pw_cell_below (below_step hHeld.1 hb) hx2, pw_cell_below (below_step hHeld.1 hb) hx3, pw_cell_below (below_step hHeld.1 hb) hx4, pw_cell_below (below_step hHeld.1 hb) hx5, pw_cell_below (below_step hHeld.1 hb) hx6, pw_cell_below (below_step hHeld.1 hb) hx7, pw_cell_below (below_step hHeld.1 hb) hx8⟩ (fun hHeld => ?_)
      clear hK K
      refine norm_ (a' := ?_) ?_ ?_
      rotate_left
      · show Act.put _ (some 44) _ = _
        simp only [Act.put, List.setIfInBounds_toArray, List.set_cons_zero, List.set_cons_succ, i64_w, i32_w]
        rfl
      refine one_ (i := 17) (N := some 45) (bzz 23 262143) rfl rfl (by kernel_rfl) (by decide) (fun K hK => ?_)
      refine goes_ Try.func25 (by kernel_rfl) rfl #[.int .i64 (wrap64 (n - pt)), .agg #[.int .i64 r1, .int .i64 r2, .int .i64 r3]] (by rfl) rfl rfl (by simp only [List.map_toArray, List.map_cons, List.map_nil]; rfl) ?_
      with_reducible refine (profile_Steps.calls qq (wrap64 (n - pt)) r1 r2 r3 plan 0 _ HST.out).mono ?_
      rintro e3 w3 ⟨v0, rfl, hR, hb⟩
      refine ⟨_, rfl, ?_⟩
      have RN := Aside0.mk (Kd.R_lower (Kd.R_newB hR (blk_below BKg.out hHeld.1)) (HS.out.below hHeld.1).le)
      clear hR
      obtain ⟨Ap, cp, ep⟩ := Kd.R_slice RN.out
      subst ep
      refine hK.out _ _ ⟨below_step hHeld.1 hb, pw_cell_below (below_step hHeld.1 hb) hc0, pw_cell_below (below_step hHeld.1 hb) hc1, pw_cell_below (below_step hHeld.1 hb) hc2, pw_cell_below (below_step hHeld.1 hb) hc3, pw_cell_below (below_step hHeld.1 hb) hc4, pw_cell_below (below_step hHeld.1 hb) hx0, pw_cell_below (below_step hHeld.1 hb) hx1, pw_cell_below (below_step hHeld.1 hb) hx2, pw_cell_below (below_step hHeld.1 hb) hx3, pw_cell_below (below_step hHeld.1 hb) hx4, pw_cell_below (below_step hHeld.1 hb) hx5, pw_cell_below (below_step hHeld.1 hb) hx6, pw_cell_below (below_step hHeld.1 hb) hx7, pw_cell_below (below_step hHeld.1 hb) hx8⟩ (fun hHeld => ?_)
      clear hK K
      refine norm_ (a' := ?_) ?_ ?_
      rotate_left
      · show Act.put _ (some 45) _ = _
        simp only [Act.put, List.setIfInBounds_toArray, List.set_cons_zero, List.set_cons_succ, i64_w, i32_w]
        rfl
      refine pu 18 27 (bzz 23 524287) (by kernel_rfl) ?_
      refine pu 19 46 (bzz 23 1048575) (by kernel_rfl) ?_
      refine pu 20 47 (bzz 23 2097151) (by kernel_rfl) ?_
      refine pu 21 3 (bzz 23 4194303) (by kernel_rfl) ?_
      refine pu 22 4 (bzz 23 8388607) (by kernel_rfl) ?_
      refine done_ (by kernel_rfl) ?_
      have HS3 := Aside0.mk (HS.out.below hHeld.1)
      have HB3 := Aside0.mk (below_then HB2.out HS.out.le hHeld.1)
      have BK3 := Aside0.mk (blk_below BKg.out hHeld.1)
      clear hHeld hc0 hc1 hc2 hc3 hc4 hc9 hx0 hx1 hx2 hx3 hx4 hx5 hx6 hx7 hx8
      have hc6 : w3.cell? ⟨g, 6, none⟩ = some (.slice AP pl.length cP) := (blk_cell BK3.out 6).trans rfl
      have hf6 := blk_frozen BK3.out 6
      have hc7 : w3.cell? ⟨g, 7, none⟩ = some (.int .i64 at_) := (blk_cell BK3.out 7).trans rfl
      have hf7 := blk_frozen BK3.out 7
      have hc8 : w3.cell? ⟨g, 8, none⟩ = some (.bool bra) := (blk_cell BK3.out 8).trans rfl
      have hf8 := blk_frozen BK3.out 8
      go_wp2
      go_meet
      case rel => exact ⟨⟨((HS3.out.setPl (Kd.R_mono RN.out (fun _ hk => hk.2))).set_ (s' := (⟨ms, sp, ac, je, ix, pt, plan, 0, bra, false, brk, pcs, lx, ly, lz⟩ : CS)) 7 _ (fun _ _ _ => rfl) rfl rfl rfl).set_ 8 _ (fun _ _ _ => rfl) rfl rfl rfl⟩, ⟨((HB3.out.setCell GEg.out _).setCell GEg.out _).setCell GEg.out _⟩⟩
   case rest =>
    clear HS HB
    obtain ⟨HS, HB⟩ := hcut
    have ha := HA.out
    clear HA HBg HBR H0 H1
    clear s
    obtain ⟨ms, sp, ac, je, ix, pt, pl, at_, bra, held, brk, pcs, lx, ly, lz⟩ := s1
    unfold AdvP at ha
    dsimp only at ha
    obtain ⟨h0, h1, ha⟩ := ha
    go_upto_region 10 with (fail)
    obtain ⟨hBg, AM, cM, AP, cP, AQ, cQ, hbox, hm1, hp1, hq1, hM, hP, hQ⟩ := HS.out.open_
    dsimp only at hbox hm1 hp1 hq1 hM hP hQ
    have HS := Aside0.mk HS.out
    have BKg := Aside0.mk hbox
    have RM := Aside0.mk hM
    have RP := Aside0.mk hP
    have RQ := Aside0.mk hQ
    have GEg := Aside0.mk hBg
    have HM1 := Aside0.mk hm1
    have HP1 := Aside0.mk hp1
    have HQ1 := Aside0.mk hq1
    clear HS hbox hM hP hQ hBg hm1 hp1 hq1
    have hc5 : wc.cell? ⟨g, 5, none⟩ = some (.int .i64 pt) := (blk_cell BKg.out 5).trans rfl
    have hc6 : wc.cell? ⟨g, 6, none⟩ = some (.slice AP pl.length cP) := (blk_cell BKg.out 6).trans rfl
    have hc7 : wc.cell? ⟨g, 7, none⟩ = some (.int .i64 at_) := (blk_cell BKg.out 7).trans rfl
    have hf5 := blk_frozen BKg.out 5
    obtain ⟨ad, ea_, hx0⟩ := at_int (Kd.R_reads' RP.out).2.2 at_ h0 h1
    subst ea_
    replace h0 := eq_true h0
    replace h1 := eq_true h1
    refine start_ (n := 18) (S := fun w' => Below wc.heap.size wc w' ∧ w'.cell? ⟨g, 5, none⟩ = some (.int .i64 pt) ∧ w'.cell? ⟨g, 6, none⟩ = some (.slice (some ad) pl.length cP) ∧ w'.cell? ⟨g, 7, none⟩ = some (.int .i64 at_) ∧ w'.cell? (ad.add at_.toNat) = some (.int .i64 (rd pl at_))) (ds := [17]) #[false, false, false, false, false, false, false, false, false, false, false, false, false, false, false, false, false, false] (by kernel_rfl) rfl rfl ⟨below_drew (Below.refl _ _), pw_cell_below (below_drew (Below.refl _ _)) hc5, pw_cell_below (below_drew (Below.refl _ _)) hc6, pw_cell_below (below_drew (Below.refl _ _)) hc7, pw_cell_below (below_drew (Below.refl _ _)) hx0⟩ (fun hHeld => ?_)
    generalize World.drew _ = wd at hHeld ⊢
    refine pu 0 65 (bzz 18 1) (by kernel_rfl) ?_
    refine pu 1 66 (bzz 18 3) (by kernel_rfl) ?_
    refine pu 2 67 (bzz 18 7) (by kernel_rfl) ?_
    refine pu 4 69 (bzz 18 23) (by kernel_rfl) ?_
    refine pu 5 70 (bzz 18 55) (by kernel_rfl) ?_
    refine pu 6 71 (bzz 18 119) (by kernel_rfl) ?_
    refine pu 8 73 (bzz 18 375) (by kernel_rfl) ?_
    refine pu 9 74 (bzz 18 887) (by kernel_rfl) ?_
    refine pu 10 75 (bzz 18 1911) (by kernel_rfl) ?_
    refine ta 3 68 (bzz 18 1919) (by kernel_rfl) hHeld ?_
    refine ta 7 72 (bzz 18 2047) (by kernel_rfl) hHeld ?_
    refine ta 11 76 (bzz 18 4095) (by kernel_rfl) hHeld ?_
    refine pu 12 77 (bzz 18 8191) (by kernel_rfl) ?_
    refine ta 13 78 (bzz 18 16383) (by kernel_rfl) hHeld ?_
    refine pu 14 79 (bzz 18 32767) (by kernel_rfl) ?_
    refine pu 15 80 (bzz 18 65535) (by kernel_rfl) ?_
    refine pu 16 81 (bzz 18 131071) (by kernel_rfl) ?_
    refine last_ (i := 17) (N := none) (bzz 18 262143) rfl rfl (by kernel_rfl) (by decide) (fun K hK => ?_)
    have hf5 := blk_frozen (blk_below BKg.out hHeld.1) 5
    have hd5 := hHeld.2.1
    refine skip_ (w1 := ?_) (by rfl) rfl ?_ ?_
    rotate_left
    · go_simp
      rfl
    refine hK.out _ _ ?_
    clear hK K
    refine done_ (by kernel_rfl) ?_
    generalize hwf : World.setCell _ _ _ = wf
    have HSf : Aside0 (Ctl B wf g (⟨ms, sp, ac, je, ix, (wrap64 (pt + rd pl at_)), pl, at_, bra, held, brk, pcs, lx, ly, lz⟩ : CS)) := ⟨by rw [← hwf]; exact (HS.out.below hHeld.1).set_ 5 _ (fun _ _ _ => rfl) rfl rfl rfl⟩
    have HBf : Aside0 (Below B w wf) := ⟨by rw [← hwf]; exact (below_then HB.out HS.out.le hHeld.1).setCell GEg.out _⟩
    have BKf : Aside0 (wf.heap[g]? = some (.cells #[.slice AM ms.length cM, .int .i64 sp, .int .i64 ac, .int .i64 je, .int .i64 ix, .int .i64 (wrap64 (pt + rd pl at_)), .slice (some ad) pl.length cP, .int .i64 at_, .bool bra, .bool held, .bool brk, .slice AQ pcs.length cQ, .int .i64 lx, .int .i64 ly, .int .i64 lz] 59 (0, 0))) := ⟨by rw [← hwf]; exact blk_put (blk_below BKg.out hHeld.1) 5 _ rfl⟩
    clear hwf hHeld hc5 hc6 hc7 hx0 hf5
    have hc7 : wf.cell? ⟨g, 7, none⟩ = some (.int .i64 at_) := (blk_cell BKf.out 7).trans rfl
    have hf7 := blk_frozen BKf.out 7
    go_step
    go_step
    go_upto_region 12 with (fail)
    generalize hwh : World.setCell _ _ _ = wh
    have HSh : Aside0 (Ctl B wh g (⟨ms, sp, ac, je, ix, (wrap64 (pt + rd pl at_)), pl, (wrap64 (at_ + 1)), bra, held, brk, pcs, lx, ly, lz⟩ : CS)) := ⟨by rw [← hwh]; exact HSf.out.set_ 7 _ (fun _ _ _ => rfl) rfl rfl rfl⟩
    have HBh : Aside0 (Below B w wh) := ⟨by rw [← hwh]; exact HBf.out.setCell GEg.out _⟩
    clear hwh HSf HBf BKf hc7 hf7 BKg HS RM RP RQ
    by_cases c : wrap64 (at_ + 1) = (pl.length : Int)
    · rw [if_pos c] at ha
      have hnb : (wrap64 (at_ + 1) == (pl.length : Int)) = true := beq_iff_eq.mpr c
      clear c
      have HST := Aside0.mk ha
      clear ha
      go_wp2_with (first | (go_at_call 24; (with_reducible refine (controller_resting.calls true HSh.out hnb).mono ?_); rintro e w2 ⟨rfl, hb⟩; have HS2 := Aside0.mk (HSh.out.below hb); have HB2 := Aside0.mk (below_then HBh.out HSh.out.le hb); clear hb) | (go_at_call 28; (with_reducible refine (controller_stop.calls s' HS2.out HST.out).mono ?_); rintro e w3 ⟨rfl, hs3, hb3⟩; have HS3 := Aside0.mk hs3; have HB3 := Aside0.mk hb3; clear hs3 hb3))
      go_ret
      exact ⟨rfl, HS3.out, HB2.out.trans HB3.out⟩
    · rw [if_neg c] at ha
      have hnb : (wrap64 (at_ + 1) == (pl.length : Int)) = false := beq_eq_false_iff_ne.mpr c
      clear c
      subst ha
      go_wp2_with (first | (go_at_call 24; (with_reducible refine (controller_resting.calls false HSh.out hnb).mono ?_); rintro e w2 ⟨rfl, hb⟩; have HS2 := Aside0.mk (HSh.out.below hb); have HB2 := Aside0.mk (below_then HBh.out HSh.out.le hb); clear hb))
      go_ret
      exact ⟨rfl, HS2.out, HB2.out⟩
set_option maxRecDepth 100000 in
set_option maxHeartbeats 8000000 in
theorem controller_Tick.no {B g : Nat} {s : CS} {w : World} (hs : Ctl B w g s) (h : s.ix = (s.ms.length : Int) ∨ (s.ix ≠ (s.ms.length : Int) ∧ s.at_ = (s.pl.length : Int) ∧ s.held = true)) (hbrk : s.brk = false) : Calls Try.prog 7 #[.pointer (some ⟨g, 0, none⟩)] w fun e w' => e = .returned (.bool false) ∧ Below w.heap.size w w' := by
 have HT := Aside0.mk hs
 have hrs : ∀ W, Ctl B W g s → s.at_ = (s.pl.length : Int) → _ := fun W (h1 : Ctl B W g s) h2 => controller_resting.calls true h1 (beq_iff_eq.mpr h2)
 have HRS := Aside0.mk hrs
 clear hrs
 have HB := Aside0.mk (Below.refl w.heap.size w)
 obtain ⟨ms, sp, ac, je, ix, pt, pl, at_, bra, held, brk, pcs, lx, ly, lz⟩ := s
 dsimp only at hbrk h
 subst hbrk
 rcases h with h | ⟨hn, hat, hh⟩
 · have hib : (ix == (ms.length : Int)) = true := beq_iff_eq.mpr h
   clear h
   obtain ⟨hBg, AM, cM, AP, cP, AQ, cQ, hbox, hm1, hp1, hq1, hM, hP, hQ⟩ := hs.open_
   dsimp only at hbox hm1 hp1 hq1 hM hP hQ
   have HS := Aside0.mk hs
   have BKg := Aside0.mk hbox
   have RM := Aside0.mk hM
   have RP := Aside0.mk hP
   have RQ := Aside0.mk hQ
   have GEg := Aside0.mk hBg
   have HM1 := Aside0.mk hm1
   have HP1 := Aside0.mk hp1
   have HQ1 := Aside0.mk hq1
   clear hs hbox hM hP hQ hBg hm1 hp1 hq1
   have hc0 : w.cell? ⟨g, 0, none⟩ = some (.slice AM ms.length cM) := (blk_cell BKg.out 0).trans rfl
   have hc4 : w.cell? ⟨g, 4, none⟩ = some (.int .i64 ix) := (blk_cell BKg.out 4).trans rfl
   have hc10 : w.cell? ⟨g, 10, none⟩ = some (.bool false) := (blk_cell BKg.out 10).trans rfl
   go_enter Try.func7, Try.ntmps7
   go_upto_region 1 with (fail)
   refine start_ (n := 16) (S := fun w' => Below w.heap.size w w' ∧ w'.cell? ⟨g, 0, none⟩ = some (.slice AM ms.length cM) ∧ w'.cell? ⟨g, 4, none⟩ = some (.int .i64 ix) ∧ w'.cell? ⟨g, 10, none⟩ = some (.bool false)) (ds := []) #[false, false, false, false, false, false, false, false, false, false, false, false, false, false, false, false] (by kernel_rfl) rfl rfl ⟨below_drew (Below.refl _ _), pw_cell_below (below_drew (Below.refl _ _)) hc0, pw_cell_below (below_drew (Below.refl _ _)) hc4, pw_cell_below (below_drew (Below.refl _ _)) hc10⟩ (fun hHeld => ?_)
   generalize World.drew _ = wd at hHeld ⊢
   refine pu 0 5 (bzz 16 1) (by kernel_rfl) ?_
   refine pu 1 6 (bzz 16 3) (by kernel_rfl) ?_
   refine pu 2 7 (bzz 16 7) (by kernel_rfl) ?_
   refine ta 3 8 (bzz 16 15) (by kernel_rfl) hHeld ?_
   refine pu 4 9 (bzz 16 31) (by kernel_rfl) ?_
   refine pu 5 10 (bzz 16 63) (by kernel_rfl) ?_
   refine pu 6 11 (bzz 16 127) (by kernel_rfl) ?_
   refine pu 7 12 (bzz 16 255) (by kernel_rfl) ?_
   refine pu 9 14 (bzz 16 767) (by kernel_rfl) ?_
   refine pu 10 15 (bzz 16 1791) (by kernel_rfl) ?_
   refine pu 11 16 (bzz 16 3839) (by kernel_rfl) ?_
   refine ta 8 13 (bzz 16 4095) (by kernel_rfl) hHeld ?_
   refine ta 12 17 (bzz 16 8191) (by kernel_rfl) hHeld ?_
   refine pu 13 18 (bzz 16 16383) (by kernel_rfl) ?_
   refine pu 14 19 (bzz 16 32767) (by kernel_rfl) ?_
   refine pu 15 20 (bzz 16 65535) (by kernel_rfl) ?_
   refine done_ (by kernel_rfl) ?_
   go_wp2
   go_ret
   exact ⟨rfl, hHeld.1⟩
 · have hib : (ix == (ms.length : Int)) = false := beq_eq_false_iff_ne.mpr hn
   have HAT := Aside0.mk hat
   subst hh
   clear hn hat
   obtain ⟨hBg, AM, cM, AP, cP, AQ, cQ, hbox, hm1, hp1, hq1, hM, hP, hQ⟩ := hs.open_
   dsimp only at hbox hm1 hp1 hq1 hM hP hQ
   have HS := Aside0.mk hs
   have BKg := Aside0.mk hbox
   have RM := Aside0.mk hM
   have RP := Aside0.mk hP
   have RQ := Aside0.mk hQ
   have GEg := Aside0.mk hBg
   have HM1 := Aside0.mk hm1
   have HP1 := Aside0.mk hp1
   have HQ1 := Aside0.mk hq1
   clear hs hbox hM hP hQ hBg hm1 hp1 hq1
   have hc0 : w.cell? ⟨g, 0, none⟩ = some (.slice AM ms.length cM) := (blk_cell BKg.out 0).trans rfl
   have hc4 : w.cell? ⟨g, 4, none⟩ = some (.int .i64 ix) := (blk_cell BKg.out 4).trans rfl
   have hc10 : w.cell? ⟨g, 10, none⟩ = some (.bool false) := (blk_cell BKg.out 10).trans rfl
   have hc9 : w.cell? ⟨g, 9, none⟩ = some (.bool true) := (blk_cell BKg.out 9).trans rfl
   go_enter Try.func7, Try.ntmps7
   go_upto_region 1 with (fail)
   refine start_ (n := 16) (S := fun w' => Below w.heap.size w w' ∧ w'.cell? ⟨g, 0, none⟩ = some (.slice AM ms.length cM) ∧ w'.cell? ⟨g, 4, none⟩ = some (.int .i64 ix) ∧ w'.cell? ⟨g, 10, none⟩ = some (.bool false) ∧ w'.cell? ⟨g, 9, none⟩ = some (.bool true)) (ds := []) #[false, false, false, false, false, false, false, false, false, false, false, false, false, false, false, false] (by kernel_rfl) rfl rfl ⟨below_drew (Below.refl _ _), pw_cell_below (below_drew (Below.refl _ _)) hc0, pw_cell_below (below_drew (Below.refl _ _)) hc4, pw_cell_below (below_drew (Below.refl _ _)) hc10, pw_cell_below (below_drew (Below.refl _ _)) hc9⟩ (fun hHeld => ?_)
   generalize World.drew _ = wd at hHeld ⊢
   refine pu 0 5 (bzz 16 1) (by kernel_rfl) ?_
   refine pu 1 6 (bzz 16 3) (by kernel_rfl) ?_
   refine pu 2 7 (bzz 16 7) (by kernel_rfl) ?_
   refine ta 3 8 (bzz 16 15) (by kernel_rfl) hHeld ?_
   refine pu 4 9 (bzz 16 31) (by kernel_rfl) ?_
   refine pu 5 10 (bzz 16 63) (by kernel_rfl) ?_
   refine pu 6 11 (bzz 16 127) (by kernel_rfl) ?_
   refine pu 7 12 (bzz 16 255) (by kernel_rfl) ?_
   refine pu 9 14 (bzz 16 767) (by kernel_rfl) ?_
   refine pu 10 15 (bzz 16 1791) (by kernel_rfl) ?_
   refine pu 11 16 (bzz 16 3839) (by kernel_rfl) ?_
   refine ta 8 13 (bzz 16 4095) (by kernel_rfl) hHeld ?_
   refine ta 12 17 (bzz 16 8191) (by kernel_rfl) hHeld ?_
   refine pu 13 18 (bzz 16 16383) (by kernel_rfl) ?_
   refine pu 14 19 (bzz 16 32767) (by kernel_rfl) ?_
   refine pu 15 20 (bzz 16 65535) (by kernel_rfl) ?_
   refine done_ (by kernel_rfl) ?_
   go_wp2_with (first | (go_at_call 24; (with_reducible refine (HRS.out _ (HT.out.below hHeld.1) HAT.out).mono ?_); rintro e w2 ⟨rfl, hb⟩; have HB2 := Aside0.mk (below_step hHeld.1 hb); have hd9 : w2.cell? ⟨g, 9, none⟩ = some (.bool true) := pw_cell_below HB2.out hc9; clear hb))
   go_ret
   exact ⟨rfl, HB2.out⟩
end Go.Proofs.Ytmaegpblaihepaa.F
