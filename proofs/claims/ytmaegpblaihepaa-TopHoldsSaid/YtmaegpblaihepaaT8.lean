/- Holding and Hold, by contracts. -/
import Derived.Test.YtmaegpblaihepaaWc
import Derived.Test.YtmaegpblaihepaaT6
import Derived.Test.YtmaegpblaihepaaT7
import Derived.Test.YtmaegpblaihepaaFx40
import Derived.Test.YtmaegpblaihepaaFx41
namespace Go.Proofs.Ytmaegpblaihepaa.F
open Go.RowKit Go.Proofs.YtmaegpblaihepaaW.PrintWords Go.Proofs.YtmaegpblaihepaaW.PrintLast Go.Proofs.YtmaegpblaihepaaW.PrintMore
attribute [local go_sem] max2_int min2_int max_two min_two max_three min_three max_four min_four
set_option linter.unusedVariables false
set_option linter.unusedSimpArgs false
set_option maxRecDepth 100000 in
set_option maxHeartbeats 8000000 in
theorem controller_Holding.calls (b : Bool) {B g : Nat} {s : CS} {w : World} (hs : Ctl B w g s) (hb_ : (s.at_ == (s.pl.length : Int)) = b) : Calls Try.prog 9 #[.pointer (some ⟨g, 0, none⟩)] w fun e w' => e = .returned (.tuple #[.bool s.held, .bool b]) ∧ Below w.heap.size w w' := by
 have HT := Aside0.mk hs
 have HN := Aside0.mk hb_
 obtain ⟨ms, sp, ac, je, ix, pt, pl, at_, bra, held, brk, pcs, lx, ly, lz⟩ := s
 obtain ⟨hBg, AM, cM, AP, cP, AQ, cQ, hbox, hm1, hp1, hq1, hM, hP, hQ⟩ := hs.open_
 dsimp only at hbox hm1 hp1 hq1 hM hP hQ hb_ ⊢
 have HS := Aside0.mk hs
 have BKg := Aside0.mk hbox
 have RM := Aside0.mk hM
 have RP := Aside0.mk hP
 have RQ := Aside0.mk hQ
 have GEg := Aside0.mk hBg
 have HM1 := Aside0.mk hm1
 have HP1 := Aside0.mk hp1
 have HQ1 := Aside0.mk hq1
 clear hs hbox hM hP hQ hBg hm1 hp1 hq1
 have hc9 : w.cell? ⟨g, 9, none⟩ = some (.bool held) := (blk_cell BKg.out 9).trans rfl
 clear hb_
 go_enter Try.func9, Try.ntmps9
 go_upto_region 1 with (fail)
 refine start_ (n := 8) (S := fun w' => Below w.heap.size w w' ∧ w'.cell? ⟨g, 9, none⟩ = some (.bool held)) (ds := []) #[false, false, false, false, false, false, false, false] (by kernel_rfl) rfl rfl ⟨below_drew (Below.refl _ _), pw_cell_below (below_drew (Below.refl _ _)) hc9⟩ (fun hHeld => ?_)
 generalize World.drew _ = wd at hHeld ⊢
 refine pu 0 4 (bzz 8 1) (by kernel_rfl) ?_
 refine pu 1 5 (bzz 8 3) (by kernel_rfl) ?_
 refine pu 2 6 (bzz 8 7) (by kernel_rfl) ?_
 refine pu 4 8 (bzz 8 23) (by kernel_rfl) ?_
 refine ta 3 7 (bzz 8 31) (by kernel_rfl) hHeld ?_
 refine one_ (i := 5) (N := some 9) (bzz 8 63) rfl rfl (by kernel_rfl) (by decide) (fun K hK => ?_)
 refine goes_ Try.func24 (by kernel_rfl) rfl #[.pointer (some ⟨g, 0, none⟩)] (by rfl) rfl rfl (by simp only [List.map_toArray, List.map_cons, List.map_nil]; rfl) ?_
 with_reducible refine (controller_resting.calls b (HS.out.below hHeld.1) HN.out).mono ?_
 rintro e w3 ⟨rfl, hb⟩
 refine ⟨_, rfl, ?_⟩
 refine hK.out _ _ ⟨below_step hHeld.1 hb, pw_cell_below (below_step hHeld.1 hb) hc9⟩ (fun hHeld => ?_)
 clear hK K
 refine norm_ (a' := ?_) ?_ ?_
 rotate_left
 · show Act.put _ (some 9) _ = _
   simp only [Act.put, List.setIfInBounds_toArray, List.set_cons_zero, List.set_cons_succ, i64_w, i32_w]
   rfl
 refine pu 6 2 (bzz 8 127) (by kernel_rfl) ?_
 refine pu 7 3 (bzz 8 255) (by kernel_rfl) ?_
 refine done_ (by kernel_rfl) ?_
 go_wp2
 go_ret2
 exact ⟨rfl, hHeld.1⟩
theorem Ctl.newB {α : Type} {d : Kd α} {e : Nat} {B g : Nat} {W w1 : World} {s : CS} {v : Value} {xs : List α} (h : Ctl B W g s) (hR : d.R e w1 W.heap.size (fun _ => True) v xs) : d.R e w1 B (fun k => k ≠ g) v xs := by
  obtain ⟨hg, vM, vP, vQ, hx, _⟩ := h
  have hlt := blk_lt hx
  exact Kd.R_mono (Kd.R_lower (Kd.R_newB hR hx) (by omega)) (fun _ hk => hk.2)
/-- what Hold makes of s -/
def HoldP (s s' : CS) : Prop := (s.at_ = (s.pl.length : Int) ∧ s' = { s with held := true }) ∨ (s.at_ ≠ (s.pl.length : Int) ∧ s.bra = true ∧ s' = { s with held := true }) ∨ (s.at_ ≠ (s.pl.length : Int) ∧ s.bra = false ∧ 0 ≤ wrap64 (s.at_ - 1) ∧ wrap64 (s.at_ - 1) < (s.pl.length : Int) ∧ (s.at_ > 1 → 0 ≤ wrap64 (s.at_ - 2) ∧ wrap64 (s.at_ - 2) < (s.pl.length : Int)) ∧ 0 ≤ s.ix ∧ s.ix < (s.ms.length : Int) ∧ ∃ r1 r2 r3 q nd e1, controller_limit.f (rd_T55 s.ms s.ix).f0.f0 (rd_T55 s.ms s.ix).f0.f1 (rd_T55 s.ms s.ix).f0.f2 (rd_T55 s.ms s.ix).f1.f0 (rd_T55 s.ms s.ix).f1.f1 (rd_T55 s.ms s.ix).f1.f2 (rd_T55 s.ms s.ix).f2 (rd_T55 s.ms s.ix).f3 (rd_T55 s.ms s.ix).f4 s.sp s.ac s.je = some (r1, r2, r3) ∧ profile_Needed.f q (if s.at_ > 1 then rd s.pl (wrap64 (s.at_ - 2)) else 0) (rd s.pl (wrap64 (s.at_ - 1))) r1 r2 r3 = some (nd, e1) ∧ ((e1 ≠ 0 ∧ s' = { s with held := true }) ∨ (e1 = 0 ∧ ∃ k n, controller_length.f k (rd_T55 s.ms s.ix).f0.f0 (rd_T55 s.ms s.ix).f0.f1 (rd_T55 s.ms s.ix).f0.f2 (rd_T55 s.ms s.ix).f1.f0 (rd_T55 s.ms s.ix).f1.f1 (rd_T55 s.ms s.ix).f1.f2 (rd_T55 s.ms s.ix).f2 (rd_T55 s.ms s.ix).f3 (rd_T55 s.ms s.ix).f4 = some n ∧ ((nd > wrap64 (n - s.pt) ∧ s' = { s with held := true }) ∨ (¬ nd > wrap64 (n - s.pt) ∧ ∃ q2 plan, profile_Stop.f q2 (if s.at_ > 1 then rd s.pl (wrap64 (s.at_ - 2)) else 0) (rd s.pl (wrap64 (s.at_ - 1))) r1 r2 r3 = some (plan, 0) ∧ (if (plan.length : Int) = 0 then StopP { s with held := true, pl := plan, at_ := 0, bra := true } s' else s' = { s with held := true, pl := plan, at_ := 0, bra := true }))))))
set_option maxRecDepth 100000 in
set_option maxHeartbeats 8000000 in
theorem controller_Hold.calls (s' : CS) {B g : Nat} {s : CS} {w : World} (hs : Ctl B w g s) (hbrk : s.brk = false) (hp : HoldP s s') : Calls Try.prog 8 #[.pointer (some ⟨g, 0, none⟩)] w fun e w' => e = .returned (.tuple #[]) ∧ Ctl B w' g s' ∧ Below B w w' := by
 have HP := Aside0.mk hp
 clear hp
 have hu31 := Try.underlying31
 have hu55 := Try.underlying55
 have hu57 := Try.underlying57
 obtain ⟨ms, sp, ac, je, ix, pt, pl, at_, bra, held, brk, pcs, lx, ly, lz⟩ := s
 dsimp only at hbrk
 subst hbrk
 obtain ⟨hBg, AM, cM, AP, cP, AQ, cQ, hbox, hm1, hp1, hq1, hM, hP, hQ⟩ := hs.open_
 dsimp only at hbox hm1 hp1 hq1 hM hP hQ
 have HS := Aside0.mk hs
 have BKg := Aside0.mk hbox
 have RM := Aside0.mk hM
 have RP := Aside0.mk hP
 have RQ := Aside0.mk hQ
 have GEg := Aside0.mk hBg
 have HM1 := Aside0.mk hm1
 have HP1 := Aside0.mk hp1
 have HQ1 := Aside0.mk hq1
 clear hs hbox hM hP hQ hBg hm1 hp1 hq1
 have hc9 : w.cell? ⟨g, 9, none⟩ = some (.bool held) := (blk_cell BKg.out 9).trans rfl
 have hc10 : w.cell? ⟨g, 10, none⟩ = some (.bool false) := (blk_cell BKg.out 10).trans rfl
 have hf9 := blk_frozen BKg.out 9
 go_enter Try.func8, Try.ntmps8
 go_upto_region 2 with (fail)
 generalize hwf : World.setCell _ _ _ = wf
 have HSf : Aside0 (Ctl B wf g (⟨ms, sp, ac, je, ix, pt, pl, at_, bra, true, false, pcs, lx, ly, lz⟩ : CS)) := ⟨by rw [← hwf]; exact HS.out.set_ 9 _ (fun _ _ _ => rfl) rfl rfl rfl⟩
 have HBf : Aside0 (Below B w wf) := ⟨by rw [← hwf]; exact (Below.refl B w).setCell GEg.out _⟩
 clear hwf HS RM RP RQ BKg hc9 hc10 hf9
 have hp := HP.out
 unfold HoldP at hp
 dsimp only at hp
 obtain ⟨hBg, AM, cM, AP, cP, AQ, cQ, hbox, hm1, hp1, hq1, hM, hP, hQ⟩ := HSf.out.open_
 dsimp only at hbox hm1 hp1 hq1 hM hP hQ
 have HS := Aside0.mk HSf.out
 have BKg := Aside0.mk hbox
 have RM := Aside0.mk hM
 have RP := Aside0.mk hP
 have RQ := Aside0.mk hQ
 have GEg := Aside0.mk hBg
 have HM1 := Aside0.mk hm1
 have HP1 := Aside0.mk hp1
 have HQ1 := Aside0.mk hq1
 clear HSf hbox hM hP hQ hBg hm1 hp1 hq1
 have HSf := HS
 rcases hp with ⟨hat, rfl⟩ | ⟨hat, hbra, rfl⟩ | ⟨hat, hbra, i10, i11, i20, h0, h1, r1, r2, r3, q, nd, e1, hli, hnd, hp⟩
 · have hnb : (at_ == (pl.length : Int)) = true := beq_iff_eq.mpr hat
   clear hat
   have hc6_ : wf.cell? ⟨g, 8, none⟩ = some (.bool bra) := (blk_cell BKg.out 8).trans rfl
   go_wp2_with (first | (go_at_call 24; (with_reducible refine (controller_resting.calls true HSf.out hnb).mono ?_); rintro e w2 ⟨rfl, hb⟩; have HS2 := Aside0.mk (HSf.out.below hb); have HB2 := Aside0.mk (below_then HBf.out HSf.out.le hb); have BK2 := Aside0.mk (blk_below BKg.out hb); replace hc6_ := pw_cell_below hb hc6_; have HBw := Aside0.mk hb; clear hb))
   refine bodyPost_ret (results_none rfl _ _ _) rfl ?_
   exact ⟨rfl, HS2.out, HB2.out⟩
 · have hnb : (at_ == (pl.length : Int)) = false := beq_eq_false_iff_ne.mpr hat
   clear hat
   subst hbra
   have hc6_ : wf.cell? ⟨g, 8, none⟩ = some (.bool true) := (blk_cell BKg.out 8).trans rfl
   go_wp2_with (first | (go_at_call 24; (with_reducible refine (controller_resting.calls false HSf.out hnb).mono ?_); rintro e w2 ⟨rfl, hb⟩; have HS2 := Aside0.mk (HSf.out.below hb); have HB2 := Aside0.mk (below_then HBf.out HSf.out.le hb); have BK2 := Aside0.mk (blk_below BKg.out hb); replace hc6_ := pw_cell_below hb hc6_; have HBw := Aside0.mk hb; clear hb))
   refine bodyPost_ret (results_none rfl _ _ _) rfl ?_
   exact ⟨rfl, HS2.out, HB2.out⟩
 · have hnb : (at_ == (pl.length : Int)) = false := beq_eq_false_iff_ne.mpr hat
   clear hat
   subst hbra
   have hc6_ : wf.cell? ⟨g, 8, none⟩ = some (.bool false) := (blk_cell BKg.out 8).trans rfl
   go_upto_region 3 with (first | (go_at_call 24; (with_reducible refine (controller_resting.calls false HSf.out hnb).mono ?_); rintro e w2 ⟨rfl, hb⟩; have HS2 := Aside0.mk (HSf.out.below hb); have HB2 := Aside0.mk (below_then HBf.out HSf.out.le hb); have BK2 := Aside0.mk (blk_below BKg.out hb); replace hc6_ := pw_cell_below hb hc6_; have HBw := Aside0.mk hb; clear hb))
   obtain ⟨ad, ea_, hx0⟩ := at_int (Kd.R_reads' RP.out).2.2 (wrap64 (at_ - 1)) i10 i11
   subst ea_
   have I1 := Aside0.mk i11
   replace i10 := eq_true i10
   replace i11 := eq_true i11
   obtain ⟨lst, hlst⟩ : ∃ q, rd pl (wrap64 (at_ - 1)) = q := ⟨_, rfl⟩
   obtain ⟨bef, hbef⟩ : ∃ q, (if at_ > 1 then rd pl (wrap64 (at_ - 2)) else 0) = q := ⟨_, rfl⟩
   rw [hlst] at hx0 hnd hp
   rw [hbef] at hnd hp
   have HBE := Aside0.mk hbef
   have HND := Aside0.mk hnd
   have HLI := Aside0.mk hli
   have HP2 := Aside0.mk hp
   have H0 := Aside0.mk h0
   have H1 := Aside0.mk h1
   have H20 := Aside0.mk i20
   clear hbef hnd hli hp h0 h1 i20 HP hc6_
   obtain ⟨hc6, hc7⟩ : wf.cell? ⟨g, 6, none⟩ = some (.slice (some ad) pl.length cP) ∧ wf.cell? ⟨g, 7, none⟩ = some (.int .i64 at_) := ⟨(blk_cell BKg.out 6).trans rfl, (blk_cell BKg.out 7).trans rfl⟩
   have hxw := pw_cell_below (w := wf) (w1 := w2) HBw.out hx0
   replace hc6 := pw_cell_below HBw.out hc6
   replace hc7 := pw_cell_below HBw.out hc7
   clear hx0
   refine start_ (n := 13) (S := fun w' => Below w2.heap.size w2 w' ∧ w'.cell? ⟨g, 6, none⟩ = some (.slice (some ad) pl.length cP) ∧ w'.cell? ⟨g, 7, none⟩ = some (.int .i64 at_) ∧ w'.cell? (ad.add (wrap64 (at_ - 1)).toNat) = some (.int .i64 lst)) (ds := []) #[false, false, false, false, false, false, false, false, false, false, false, false, false] (by kernel_rfl) rfl rfl ⟨below_drew (Below.refl _ _), pw_cell_below (below_drew (Below.refl _ _)) hc6, pw_cell_below (below_drew (Below.refl _ _)) hc7, pw_cell_below (below_drew (Below.refl _ _)) hxw⟩ (fun hHeld => ?_)
   generalize World.drew _ = wd at hHeld ⊢
   refine pu 0 23 (bzz 13 1) (by kernel_rfl) ?_
   refine pu 1 24 (bzz 13 3) (by kernel_rfl) ?_
   refine pu 2 25 (bzz 13 7) (by kernel_rfl) ?_
   refine pu 4 27 (bzz 13 23) (by kernel_rfl) ?_
   refine pu 5 28 (bzz 13 55) (by kernel_rfl) ?_
   refine pu 6 29 (bzz 13 119) (by kernel_rfl) ?_
   refine pu 11 2 (bzz 13 2167) (by kernel_rfl) ?_
   refine ta 3 26 (bzz 13 2175) (by kernel_rfl) hHeld ?_
   refine ta 7 30 (bzz 13 2303) (by kernel_rfl) hHeld ?_
   refine pu 8 31 (bzz 13 2559) (by kernel_rfl) ?_
   refine pu 9 32 (bzz 13 3071) (by kernel_rfl) ?_
   refine ta 10 33 (bzz 13 4095) (by kernel_rfl) hHeld ?_
   refine pu 12 3 (bzz 13 8191) (by kernel_rfl) ?_
   refine done_ (by kernel_rfl) ?_
   replace HS2 := Aside0.mk (HS2.out.below hHeld.1)
   replace HB2 := Aside0.mk (below_then HB2.out (HSf.out.below HBw.out).le hHeld.1)
   clear hHeld hc6 hc7 hxw HSf HS BKg RM RP RQ HBf HBw BK2 hnb i10 i11 hlst
   go_step
   go_step
   go_step
   go_cut [2] (fun v2 wc => v2 = .int .i64 bef ∧ Aside0 (Ctl B wc g (⟨ms, sp, ac, je, ix, pt, pl, at_, false, true, false, pcs, lx, ly, lz⟩ : CS)) ∧ Aside0 (Below B w wc))
   case first =>
    obtain ⟨hBg, AM, cM, AP, cP, AQ, cQ, hbox, hm1, hp1, hq1, hM, hP, hQ⟩ := HS2.out.open_
    dsimp only at hbox hm1 hp1 hq1 hM hP hQ
    have HS := Aside0.mk HS2.out
    have BKg := Aside0.mk hbox
    have RM := Aside0.mk hM
    have RP := Aside0.mk hP
    have RQ := Aside0.mk hQ
    have GEg := Aside0.mk hBg
    have HM1 := Aside0.mk hm1
    have HP1 := Aside0.mk hp1
    have HQ1 := Aside0.mk hq1
    clear HS2 hbox hM hP hQ hBg hm1 hp1 hq1
    have hc6 : wd.cell? ⟨g, 6, none⟩ = some (.slice AP pl.length cP) := (blk_cell BKg.out 6).trans rfl
    have hc7 : wd.cell? ⟨g, 7, none⟩ = some (.int .i64 at_) := (blk_cell BKg.out 7).trans rfl
    have be := HBE.out
    clear HBE
    by_cases c : at_ > 1
    · rw [if_pos c] at be
      obtain ⟨j0, j1⟩ := H20.out c
      have cb : decide (1 < at_) = true := decide_eq_true c
      clear c
      obtain ⟨ad2, ea_, hx0⟩ := at_int (Kd.R_reads' RP.out).2.2 (wrap64 (at_ - 2)) j0 j1
      subst ea_
      rw [be] at hx0
      replace j0 := eq_true j0
      replace j1 := eq_true j1
      go_upto_region 5 with (fail)
      refine start_ (n := 12) (S := fun w' => Below wd.heap.size wd w' ∧ w'.cell? ⟨g, 6, none⟩ = some (.slice (some ad2) pl.length cP) ∧ w'.cell? ⟨g, 7, none⟩ = some (.int .i64 at_) ∧ w'.cell? (ad2.add (wrap64 (at_ - 2)).toNat) = some (.int .i64 bef)) (ds := []) #[false, false, false, false, false, false, false, false, false, false, false, false] (by kernel_rfl) rfl rfl ⟨below_drew (Below.refl _ _), pw_cell_below (below_drew (Below.refl _ _)) hc6, pw_cell_below (below_drew (Below.refl _ _)) hc7, pw_cell_below (below_drew (Below.refl _ _)) hx0⟩ (fun hHeld => ?_)
      generalize World.drew _ = wd2 at hHeld ⊢
      refine pu 0 39 (bzz 12 1) (by kernel_rfl) ?_
      refine pu 1 40 (bzz 12 3) (by kernel_rfl) ?_
      refine pu 2 41 (bzz 12 7) (by kernel_rfl) ?_
      refine pu 4 43 (bzz 12 23) (by kernel_rfl) ?_
      refine pu 5 44 (bzz 12 55) (by kernel_rfl) ?_
      refine pu 6 45 (bzz 12 119) (by kernel_rfl) ?_
      refine ta 3 42 (bzz 12 127) (by kernel_rfl) hHeld ?_
      refine ta 7 46 (bzz 12 255) (by kernel_rfl) hHeld ?_
      refine pu 8 47 (bzz 12 511) (by kernel_rfl) ?_
      refine pu 9 48 (bzz 12 1023) (by kernel_rfl) ?_
      refine ta 10 49 (bzz 12 2047) (by kernel_rfl) hHeld ?_
      refine pu 11 2 (bzz 12 4095) (by kernel_rfl) ?_
      refine done_ (by kernel_rfl) ?_
      go_wp2
      go_meet
      case rel => exact ⟨rfl, ⟨HS.out.below hHeld.1⟩, ⟨below_then HB2.out HS.out.le hHeld.1⟩⟩
    · rw [if_neg c] at be
      subst be
      have cb : decide (1 < at_) = false := decide_eq_false c
      clear c
      go_wp2
      go_meet
      case rel => exact ⟨rfl, HS, HB2⟩
   case rest =>
    clear HS2 HB2 HBE H20 I1
    obtain ⟨rfl, HS_, HB⟩ := hcut
    obtain ⟨hBg, AM, cM, AP, cP, AQ, cQ, hbox, hm1, hp1, hq1, hM, hP, hQ⟩ := HS_.out.open_
    dsimp only at hbox hm1 hp1 hq1 hM hP hQ
    have HS := Aside0.mk HS_.out
    have BKg := Aside0.mk hbox
    have RM := Aside0.mk hM
    have RP := Aside0.mk hP
    have RQ := Aside0.mk hQ
    have GEg := Aside0.mk hBg
    have HM1 := Aside0.mk hm1
    have HP1 := Aside0.mk hp1
    have HQ1 := Aside0.mk hq1
    clear HS_ hbox hM hP hQ hBg hm1 hp1 hq1
    have hc0 : wc.cell? ⟨g, 0, none⟩ = some (.slice AM ms.length cM) := (blk_cell BKg.out 0).trans rfl
    have hc1 : wc.cell? ⟨g, 1, none⟩ = some (.int .i64 sp) := (blk_cell BKg.out 1).trans rfl
    have hc2 : wc.cell? ⟨g, 2, none⟩ = some (.int .i64 ac) := (blk_cell BKg.out 2).trans rfl
    have hc3 : wc.cell? ⟨g, 3, none⟩ = some (.int .i64 je) := (blk_cell BKg.out 3).trans rfl
    have hc4 : wc.cell? ⟨g, 4, none⟩ = some (.int .i64 ix) := (blk_cell BKg.out 4).trans rfl
    obtain ⟨ad, ea_, hx0, hx1, hx2, hx3, hx4, hx5, hx6, hx7, hx8⟩ := at_T55 (Kd.R_reads' RM.out).2.2 ix H0.out H1.out
    subst ea_
    have h0 := eq_true H0.out
    have h1 := eq_true H1.out
    go_upto_region 6 with (fail)
    refine start_ (n := 17) (S := fun w' => Below wc.heap.size wc w' ∧ w'.cell? ⟨g, 0, none⟩ = some (.slice (some ad) ms.length cM) ∧ w'.cell? ⟨g, 1, none⟩ = some (.int .i64 sp) ∧ w'.cell? ⟨g, 2, none⟩ = some (.int .i64 ac) ∧ w'.cell? ⟨g, 3, none⟩ = some (.int .i64 je) ∧ w'.cell? ⟨g, 4, none⟩ = some (.int .i64 ix) ∧ w'.cell? (ad.add (ix.toNat * 9)) = some (.int .i64 (rd_T55 ms ix).f0.f0) ∧ w'.cell? ⟨(ad.add (ix.toNat * 9)).block, (ad.add (ix.toNat * 9)).off + 1, none⟩ = some (.int .i64 (rd_T55 ms ix).f0.f1) ∧ w'.cell? ⟨(ad.add (ix.toNat * 9)).block, (ad.add (ix.toNat * 9)).off + 2, none⟩ = some (.int .i64 (rd_T55 ms ix).f0.f2) ∧ w'.cell? ⟨(ad.add (ix.toNat * 9)).block, (ad.add (ix.toNat * 9)).off + 3, none⟩ = some (.int .i64 (rd_T55 ms ix).f1.f0) ∧ w'.cell? ⟨(ad.add (ix.toNat * 9)).block, (ad.add (ix.toNat * 9)).off + 4, none⟩ = some (.int .i64 (rd_T55 ms ix).f1.f1) ∧ w'.cell? ⟨(ad.add (ix.toNat * 9)).block, (ad.add (ix.toNat * 9)).off + 5, none⟩ = some (.int .i64 (rd_T55 ms ix).f1.f2) ∧ w'.cell? ⟨(ad.add (ix.toNat * 9)).block, (ad.add (ix.toNat * 9)).off + 6, none⟩ = some (.int .i64 (rd_T55 ms ix).f2) ∧ w'.cell? ⟨(ad.add (ix.toNat * 9)).block, (ad.add (ix.toNat * 9)).off + 7, none⟩ = some (.int .i64 (rd_T55 ms ix).f3) ∧ w'.cell? ⟨(ad.add (ix.toNat * 9)).block, (ad.add (ix.toNat * 9)).off + 8, none⟩ = some (.int .i64 (rd_T55 ms ix).f4)) (ds := [16]) #[false, false, false, false, false, false, false, false, false, false, false, false, false, false, false, false, false] (by kernel_rfl) rfl rfl ⟨below_drew (Below.refl _ _), pw_cell_below (below_drew (Below.refl _ _)) hc0, pw_cell_below (below_drew (Below.refl _ _)) hc1, pw_cell_below (below_drew (Below.refl _ _)) hc2, pw_cell_below (below_drew (Below.refl _ _)) hc3, pw_cell_below (below_drew (Below.refl _ _)) hc4, pw_cell_below (below_drew (Below.refl _ _)) hx0, pw_cell_below (below_drew (Below.refl _ _)) hx1, pw_cell_below (below_drew (Below.refl _ _)) hx2, pw_cell_below (below_drew (Below.refl _ _)) hx3, pw_cell_below (below_drew (Below.refl _ _)) hx4, pw_cell_below (below_drew (Below.refl _ _)) hx5, pw_cell_below (below_drew (Below.refl _ _)) hx6, pw_cell_below (below_drew (Below.refl _ _)) hx7, pw_cell_below (below_drew (Below.refl _ _)) hx8⟩ (fun hHeld => ?_)
    generalize World.drew _ = wd3 at hHeld ⊢
    refine pu 0 50 (bzz 17 1) (by kernel_rfl) ?_
    refine pu 1 51 (bzz 17 3) (by kernel_rfl) ?_
    refine pu 2 52 (bzz 17 7) (by kernel_rfl) ?_
    refine pu 4 54 (bzz 17 23) (by kernel_rfl) ?_
    refine pu 5 55 (bzz 17 55) (by kernel_rfl) ?_
    refine pu 6 56 (bzz 17 119) (by kernel_rfl) ?_
    refine pu 10 60 (bzz 17 1143) (by kernel_rfl) ?_
    refine pu 11 61 (bzz 17 3191) (by kernel_rfl) ?_
    refine pu 12 62 (bzz 17 7287) (by kernel_rfl) ?_
    refine ta 3 53 (bzz 17 7295) (by kernel_rfl) hHeld ?_
    refine ta 7 57 (bzz 17 7423) (by kernel_rfl) hHeld ?_
    refine pu 8 58 (bzz 17 7679) (by kernel_rfl) ?_
    refine ta 9 59 (bzz 17 8191) (by kernel_rfl) hHeld ?_
    refine ta 13 63 (bzz 17 16383) (by kernel_rfl) hHeld ?_
    refine join_ (σ := Nat) 1 #[true, true, true, true, true, true, true, true, true, true, true, true, true, true, true, true, false] (fun s_ => [(64, .agg #[.int .i64 r1, .int .i64 r2, .int .i64 r3]), (4, .pointer (some ⟨s_, 0, none⟩))]) (fun s_ w' => (Below wc.heap.size wc w' ∧ w'.cell? ⟨g, 0, none⟩ = some (.slice (some ad) ms.length cM) ∧ w'.cell? ⟨g, 1, none⟩ = some (.int .i64 sp) ∧ w'.cell? ⟨g, 2, none⟩ = some (.int .i64 ac) ∧ w'.cell? ⟨g, 3, none⟩ = some (.int .i64 je) ∧ w'.cell? ⟨g, 4, none⟩ = some (.int .i64 ix) ∧ w'.cell? (ad.add (ix.toNat * 9)) = some (.int .i64 (rd_T55 ms ix).f0.f0) ∧ w'.cell? ⟨(ad.add (ix.toNat * 9)).block, (ad.add (ix.toNat * 9)).off + 1, none⟩ = some (.int .i64 (rd_T55 ms ix).f0.f1) ∧ w'.cell? ⟨(ad.add (ix.toNat * 9)).block, (ad.add (ix.toNat * 9)).off + 2, none⟩ = some (.int .i64 (rd_T55 ms ix).f0.f2) ∧ w'.cell? ⟨(ad.add (ix.toNat * 9)).block, (ad.add (ix.toNat * 9)).off + 3, none⟩ = some (.int .i64 (rd_T55 ms ix).f1.f0) ∧ w'.cell? ⟨(ad.add (ix.toNat * 9)).block, (ad.add (ix.toNat * 9)).off + 4, none⟩ = some (.int .i64 (rd_T55 ms ix).f1.f1) ∧ w'.cell? ⟨(ad.add (ix.toNat * 9)).block, (ad.add (ix.toNat * 9)).off + 5, none⟩ = some (.int .i64 (rd_T55 ms ix).f1.f2) ∧ w'.cell? ⟨(ad.add (ix.toNat * 9)).block, (ad.add (ix.toNat * 9)).off + 6, none⟩ = some (.int .i64 (rd_T55 ms ix).f2) ∧ w'.cell? ⟨(ad.add (ix.toNat * 9)).block, (ad.add (ix.toNat * 9)).off + 7, none⟩ = some (.int .i64 (rd_T55 ms ix).f3) ∧ w'.cell? ⟨(ad.add (ix.toNat * 9)).block, (ad.add (ix.toNat * 9)).off + 8, none⟩ = some (.int .i64 (rd_T55 ms ix).f4)) ∧ w'.heap[s_]? = some (.cells #[.int .i64 0, .int .i64 0, .int .i64 0] 31 (0, 0)) ∧ wc.heap.size ≤ s_) ?_ ?_
    rotate_left
    · intro hCont
      refine two_ (i := 14) (j := 15) (Ni := some 64) (Nj := some 4) #[true, true, true, true, true, true, true, true, true, true, true, true, true, true, true, false, false] #[true, true, true, true, true, true, true, true, true, true, true, true, true, true, false, true, false] rfl rfl rfl rfl (by kernel_rfl) (by decide) (by decide) (fun K hK => ?_) (fun K hK => ?_)
      · skip
        refine goes_ Try.func27 (by kernel_rfl) rfl #[.agg #[.int .i64 (rd_T55 ms ix).f0.f0, .int .i64 (rd_T55 ms ix).f0.f1, .int .i64 (rd_T55 ms ix).f0.f2, .int .i64 (rd_T55 ms ix).f1.f0, .int .i64 (rd_T55 ms ix).f1.f1, .int .i64 (rd_T55 ms ix).f1.f2, .int .i64 (rd_T55 ms ix).f2, .int .i64 (rd_T55 ms ix).f3, .int .i64 (rd_T55 ms ix).f4], .agg #[.int .i64 sp, .int .i64 ac, .int .i64 je]] (by rfl) rfl rfl (by simp only [List.map_toArray, List.map_cons, List.map_nil]; rfl) ?_
        with_reducible refine (controller_limit.calls (rd_T55 ms ix).f0.f0 (rd_T55 ms ix).f0.f1 (rd_T55 ms ix).f0.f2 (rd_T55 ms ix).f1.f0 (rd_T55 ms ix).f1.f1 (rd_T55 ms ix).f1.f2 (rd_T55 ms ix).f2 (rd_T55 ms ix).f3 (rd_T55 ms ix).f4 sp ac je r1 r2 r3 _ HLI.out).mono ?_
        rintro e w3 ⟨rfl, hb⟩
        refine ⟨_, rfl, ?_⟩
        refine hK.out _ _ ⟨below_step hHeld.1 hb, pw_cell_below (below_step hHeld.1 hb) hc0, pw_cell_below (below_step hHeld.1 hb) hc1, pw_cell_below (below_step hHeld.1 hb) hc2, pw_cell_below (below_step hHeld.1 hb) hc3, pw_cell_below (below_step hHeld.1 hb) hc4, pw_cell_below (below_step hHeld.1 hb) hx0, pw_cell_below (below_step hHeld.1 hb) hx1, pw_cell_below (below_step hHeld.1 hb) hx2, pw_cell_below (below_step hHeld.1 hb) hx3, pw_cell_below (below_step hHeld.1 hb) hx4, pw_cell_below (below_step hHeld.1 hb) hx5, pw_cell_below (below_step hHeld.1 hb) hx6, pw_cell_below (below_step hHeld.1 hb) hx7, pw_cell_below (below_step hHeld.1 hb) hx8⟩ (fun hHeld => ?_)
        clear hK K
        refine norm_ (a' := ?_) ?_ ?_
        rotate_left
        · show Act.put _ (some 64) _ = _
          simp only [Act.put, List.setIfInBounds_toArray, List.set_cons_zero, List.set_cons_succ, i64_w, i32_w]
          rfl
        refine one_ (i := 15) (N := some 4) (bzz 17 65535) rfl rfl (by kernel_rfl) (by decide) (fun K hK => ?_)
        refine box_value (cs := #[.int .i64 0, .int .i64 0, .int .i64 0]) (t := 31) (by rfl) rfl ?_ ?_
        · first | (go_simp; done) | (go_simp; rfl)
        intro gp hgp w3 hboxp hb
        have hgep : wc.heap.size ≤ gp := by rw [hgp]; exact hHeld.1.size
        clear hgp
        refine hK.out _ _ ⟨below_step hHeld.1 hb, pw_cell_below (below_step hHeld.1 hb) hc0, pw_cell_below (below_step hHeld.1 hb) hc1, pw_cell_below (below_step hHeld.1 hb) hc2, pw_cell_below (below_step hHeld.1 hb) hc3, pw_cell_below (below_step hHeld.1 hb) hc4, pw_cell_below (below_step hHeld.1 hb) hx0, pw_cell_below (below_step hHeld.1 hb) hx1, pw_cell_below (below_step hHeld.1 hb) hx2, pw_cell_below (below_step hHeld.1 hb) hx3, pw_cell_below (below_step hHeld.1 hb) hx4, pw_cell_below (below_step hHeld.1 hb) hx5, pw_cell_below (below_step hHeld.1 hb) hx6, pw_cell_below (below_step hHeld.1 hb) hx7, pw_cell_below (below_step hHeld.1 hb) hx8⟩ (fun hHeld => ?_)
        clear hK K
        refine norm_ (a' := ?_) ?_ ?_
        rotate_left
        · show Act.put _ (some 4) _ = _
          simp only [Act.put, List.setIfInBounds_toArray, List.set_cons_zero, List.set_cons_succ, i64_w, i32_w]
          rfl
        exact norm_ (by simp only [putAll, Act.put, List.setIfInBounds_toArray, List.set_cons_zero, List.set_cons_succ]) (hCont gp _ ⟨hHeld, hboxp, hgep⟩)
      · skip
        refine box_value (cs := #[.int .i64 0, .int .i64 0, .int .i64 0]) (t := 31) (by rfl) rfl ?_ ?_
        · first | (go_simp; done) | (go_simp; rfl)
        intro gp hgp w3 hboxp hb
        have hgep : wc.heap.size ≤ gp := by rw [hgp]; exact hHeld.1.size
        clear hgp
        refine hK.out _ _ ⟨below_step hHeld.1 hb, pw_cell_below (below_step hHeld.1 hb) hc0, pw_cell_below (below_step hHeld.1 hb) hc1, pw_cell_below (below_step hHeld.1 hb) hc2, pw_cell_below (below_step hHeld.1 hb) hc3, pw_cell_below (below_step hHeld.1 hb) hc4, pw_cell_below (below_step hHeld.1 hb) hx0, pw_cell_below (below_step hHeld.1 hb) hx1, pw_cell_below (below_step hHeld.1 hb) hx2, pw_cell_below (below_step hHeld.1 hb) hx3, pw_cell_below (below_step hHeld.1 hb) hx4, pw_cell_below (below_step hHeld.1 hb) hx5, pw_cell_below (below_step hHeld.1 hb) hx6, pw_cell_below (below_step hHeld.1 hb) hx7, pw_cell_below (below_step hHeld.1 hb) hx8⟩ (fun hHeld => ?_)
        clear hK K
        refine norm_ (a' := ?_) ?_ ?_
        rotate_left
        · show Act.put _ (some 4) _ = _
          simp only [Act.put, List.setIfInBounds_toArray, List.set_cons_zero, List.set_cons_succ, i64_w, i32_w]
          rfl
        refine one_ (i := 14) (N := some 64) (bzz 17 65535) rfl rfl (by kernel_rfl) (by decide) (fun K hK => ?_)
        refine goes_ Try.func27 (by kernel_rfl) rfl #[.agg #[.int .i64 (rd_T55 ms ix).f0.f0, .int .i64 (rd_T55 ms ix).f0.f1, .int .i64 (rd_T55 ms ix).f0.f2, .int .i64 (rd_T55 ms ix).f1.f0, .int .i64 (rd_T55 ms ix).f1.f1, .int .i64 (rd_T55 ms ix).f1.f2, .int .i64 (rd_T55 ms ix).f2, .int .i64 (rd_T55 ms ix).f3, .int .i64 (rd_T55 ms ix).f4], .agg #[.int .i64 sp, .int .i64 ac, .int .i64 je]] (by rfl) rfl rfl (by simp only [List.map_toArray, List.map_cons, List.map_nil]; rfl) ?_
        with_reducible refine (controller_limit.calls (rd_T55 ms ix).f0.f0 (rd_T55 ms ix).f0.f1 (rd_T55 ms ix).f0.f2 (rd_T55 ms ix).f1.f0 (rd_T55 ms ix).f1.f1 (rd_T55 ms ix).f1.f2 (rd_T55 ms ix).f2 (rd_T55 ms ix).f3 (rd_T55 ms ix).f4 sp ac je r1 r2 r3 _ HLI.out).mono ?_
        rintro e w3 ⟨rfl, hb⟩
        refine ⟨_, rfl, ?_⟩
        have hboxp := blk_below hboxp hb
        refine hK.out _ _ ⟨below_step hHeld.1 hb, pw_cell_below (below_step hHeld.1 hb) hc0, pw_cell_below (below_step hHeld.1 hb) hc1, pw_cell_below (below_step hHeld.1 hb) hc2, pw_cell_below (below_step hHeld.1 hb) hc3, pw_cell_below (below_step hHeld.1 hb) hc4, pw_cell_below (below_step hHeld.1 hb) hx0, pw_cell_below (below_step hHeld.1 hb) hx1, pw_cell_below (below_step hHeld.1 hb) hx2, pw_cell_below (below_step hHeld.1 hb) hx3, pw_cell_below (below_step hHeld.1 hb) hx4, pw_cell_below (below_step hHeld.1 hb) hx5, pw_cell_below (below_step hHeld.1 hb) hx6, pw_cell_below (below_step hHeld.1 hb) hx7, pw_cell_below (below_step hHeld.1 hb) hx8⟩ (fun hHeld => ?_)
        clear hK K
        refine norm_ (a' := ?_) ?_ ?_
        rotate_left
        · show Act.put _ (some 64) _ = _
          simp only [Act.put, List.setIfInBounds_toArray, List.set_cons_zero, List.set_cons_succ, i64_w, i32_w]
          rfl
        exact norm_ (by simp only [putAll, Act.put, List.setIfInBounds_toArray, List.set_cons_zero, List.set_cons_succ]) (hCont gp _ ⟨hHeld, hboxp, hgep⟩)
    rintro gp wp ⟨hHeld, hboxp, hgep⟩
    have BKp := Aside0.mk hboxp
    have HGp := Aside0.mk hgep
    have HBp := Aside0.mk hHeld.1
    clear hboxp hgep
    have hp0 : wp.cell? ⟨gp, 0, none⟩ = some (.int .i64 0) := (blk_cell BKp.out 0).trans rfl
    have hp1 : wp.cell? ⟨gp, 1, none⟩ = some (.int .i64 0) := (blk_cell BKp.out 1).trans rfl
    have hp2 : wp.cell? ⟨gp, 2, none⟩ = some (.int .i64 0) := (blk_cell BKp.out 2).trans rfl
    have hpf0 := blk_frozen BKp.out 0
    have hpf1 := blk_frozen BKp.out 1
    have hpf2 := blk_frozen BKp.out 2
    refine norm_ (a' := ?_) ?_ ?_
    rotate_left
    · simp only [putAll, Act.put, List.setIfInBounds_toArray, List.set_cons_zero, List.set_cons_succ]
      rfl
    refine last_ (i := 16) (N := none) (bzz 17 131071) rfl rfl (by kernel_rfl) (by decide) (fun K hK => ?_)
    refine skip_ (w1 := ?_) (by rfl) rfl ?_ ?_
    rotate_left
    · go_simp
      rfl
    refine hK.out _ _ ?_
    clear hK K
    refine done_ (by kernel_rfl) ?_
    generalize hwl : World.setCell _ _ _ = wl
    have BKL : Aside0 (wl.heap[gp]? = some (.cells #[.int .i64 r1, .int .i64 r2, .int .i64 r3] 31 (0, 0))) := ⟨by rw [← hwl]; exact (by refine blk_put (cs := #[.int .i64 r1, .int .i64 r2, .int .i64 0]) ?_ 2 _ rfl; refine blk_put (cs := #[.int .i64 r1, .int .i64 0, .int .i64 0]) ?_ 1 _ rfl; refine blk_put (cs := #[.int .i64 0, .int .i64 0, .int .i64 0]) ?_ 0 _ rfl; exact BKp.out)⟩
    have HBl : Aside0 (Below wc.heap.size wc wl) := ⟨by rw [← hwl]; exact ((HBp.out.setCell HGp.out _).setCell HGp.out _).setCell HGp.out _⟩
    have HSl := Aside0.mk (HS.out.below HBl.out)
    have HBB := Aside0.mk (below_then HB.out HS.out.le HBl.out)
    clear hwl hHeld BKp HBp hp0 hp1 hp2 hpf0 hpf1 hpf2 hc0 hc1 hc2 hc3 hc4 hx0 hx1 hx2 hx3 hx4 hx5 hx6 hx7 hx8 HS HB HBl BKg RM RP RQ HGp
    have hl0 : wl.cell? ⟨gp, 0, none⟩ = some (.int .i64 r1) := (blk_cell BKL.out 0).trans rfl
    have hl1 : wl.cell? ⟨gp, 1, none⟩ = some (.int .i64 r2) := (blk_cell BKL.out 1).trans rfl
    have hl2 : wl.cell? ⟨gp, 2, none⟩ = some (.int .i64 r3) := (blk_cell BKL.out 2).trans rfl
    have HSlo := Aside0.mk HSl.out.le
    go_upto_region 8 with (first | (go_at_call 29; (with_reducible refine (profile_Needed.calls q bef lst r1 r2 r3 nd e1 _ HND.out).mono ?_); rintro e w4 ⟨rfl, hb⟩; replace BKL := Aside0.mk (blk_below BKL.out hb); replace HSl := Aside0.mk (HSl.out.below hb); replace HBB := Aside0.mk (below_then HBB.out HSlo.out hb); clear hl0 hl1 hl2 hb; have hl0 : w4.cell? ⟨gp, 0, none⟩ = some (.int .i64 r1) := (blk_cell BKL.out 0).trans rfl; have hl1 : w4.cell? ⟨gp, 1, none⟩ = some (.int .i64 r2) := (blk_cell BKL.out 1).trans rfl; have hl2 : w4.cell? ⟨gp, 2, none⟩ = some (.int .i64 r3) := (blk_cell BKL.out 2).trans rfl))
    have HSlo4 := Aside0.mk HSl.out.le
    rcases HP2.out with ⟨he, rfl⟩ | ⟨he, k, n, hl, hp⟩
    · have eb : (e1 != 0) = true := bne_iff_ne.mpr he
      clear he
      go_wp2
      refine bodyPost_ret (results_none rfl _ _ _) rfl ?_
      exact ⟨rfl, HSl.out, HBB.out⟩
    · subst he
      have HL := Aside0.mk hl
      clear hl HP2
      rcases hp with ⟨hc, rfl⟩ | ⟨hc, q2, plan, hst, hend⟩
      · have cb : decide (wrap64 (n - pt) < nd) = true := decide_eq_true (by omega)
        clear hc
        go_wp2_with (first | (go_at_call 26; (with_reducible refine (controller_left.calls k n HSl.out H0.out H1.out HL.out).mono ?_); rintro e w5 ⟨rfl, hb⟩; have BKL5 := Aside0.mk (blk_below BKL.out hb); have HS5 := Aside0.mk (HSl.out.below hb); have HB5 := Aside0.mk (below_then HBB.out HSlo4.out hb); clear hl0 hl1 hl2 hb))
        refine bodyPost_ret (results_none rfl _ _ _) rfl ?_
        exact ⟨rfl, HS5.out, HB5.out⟩
      · have cb : decide (wrap64 (n - pt) < nd) = false := decide_eq_false (by omega)
        clear hc
        have HST := Aside0.mk hst
        have HE := Aside0.mk hend
        clear hst hend
        go_upto_region 9 with (first | (go_at_call 26; (with_reducible refine (controller_left.calls k n HSl.out H0.out H1.out HL.out).mono ?_); rintro e w5 ⟨rfl, hb⟩; have BKL5 := Aside0.mk (blk_below BKL.out hb); have HS5 := Aside0.mk (HSl.out.below hb); have HB5 := Aside0.mk (below_then HBB.out HSlo4.out hb); clear hl0 hl1 hl2 hb))
        have hl0 : w5.cell? ⟨gp, 0, none⟩ = some (.int .i64 r1) := (blk_cell BKL5.out 0).trans rfl
        have hl1 : w5.cell? ⟨gp, 1, none⟩ = some (.int .i64 r2) := (blk_cell BKL5.out 1).trans rfl
        have hl2 : w5.cell? ⟨gp, 2, none⟩ = some (.int .i64 r3) := (blk_cell BKL5.out 2).trans rfl
        go_upto_region 11 with (first | (go_at_call 30; (with_reducible refine (profile_Stop.calls q2 bef lst r1 r2 r3 plan 0 _ HST.out).mono ?_); rintro e w6 ⟨v0, rfl, hR, hb⟩; have RN := Aside0.mk (HS5.out.newB hR); have HS6 := Aside0.mk (HS5.out.below hb); have HB6 := Aside0.mk (below_then HB5.out HS5.out.le hb); obtain ⟨Ap, cp, ep⟩ := Kd.R_slice RN.out; subst ep; clear hR hb))
        obtain ⟨hBg2, AM, cM, AP, cP, AQ, cQ, hbox2, _⟩ := HS6.out.open_
        dsimp only at hbox2
        have BK2 := Aside0.mk hbox2
        clear hbox2
        have hc6 : w6.cell? ⟨g, 6, none⟩ = some (.slice AP pl.length cP) := (blk_cell BK2.out 6).trans rfl
        have hc7 : w6.cell? ⟨g, 7, none⟩ = some (.int .i64 at_) := (blk_cell BK2.out 7).trans rfl
        have hc8 : w6.cell? ⟨g, 8, none⟩ = some (.bool false) := (blk_cell BK2.out 8).trans rfl
        have hf6 := blk_frozen BK2.out 6
        have hf7 := blk_frozen BK2.out 7
        have hf8 := blk_frozen BK2.out 8
        go_upto_region 12 with (fail)
        generalize hwh : World.setCell _ _ _ = wh
        have HSh : Aside0 (Ctl B wh g (⟨ms, sp, ac, je, ix, pt, plan, 0, true, true, false, pcs, lx, ly, lz⟩ : CS)) := ⟨by rw [← hwh]; exact ((HS6.out.setPl RN.out).set_ (s' := (⟨ms, sp, ac, je, ix, pt, plan, 0, false, true, false, pcs, lx, ly, lz⟩ : CS)) 7 _ (fun _ _ _ => rfl) rfl rfl rfl).set_ 8 _ (fun _ _ _ => rfl) rfl rfl rfl⟩
        have HBh : Aside0 (Below B w wh) := ⟨by rw [← hwh]; exact ((HB6.out.setCell hBg2 _).setCell hBg2 _).setCell hBg2 _⟩
        clear hwh hc6 hc7 hc8 hf6 hf7 hf8 BK2 RN HS6 HB6
        have he := HE.out
        clear HE
        by_cases c : (plan.length : Int) = 0
        · rw [if_pos c] at he
          have pb : ((plan.length : Int) == 0) = true := beq_iff_eq.mpr c
          clear c
          have HE := Aside0.mk he
          clear he
          go_wp2_with (first | (go_at_call 28; (with_reducible refine (controller_stop.calls s' HSh.out HE.out).mono ?_); rintro e w7 ⟨rfl, hs3, hb3⟩; have HS7 := Aside0.mk hs3; have HB7 := Aside0.mk hb3; clear hs3 hb3))
          go_end0
          exact ⟨rfl, HS7.out, HBh.out.trans HB7.out⟩
        · rw [if_neg c] at he
          have pb : ((plan.length : Int) == 0) = false := beq_eq_false_iff_ne.mpr c
          clear c
          subst he
          go_wp2
          go_end0
          exact ⟨rfl, HSh.out, HBh.out⟩
end Go.Proofs.Ytmaegpblaihepaa.F
