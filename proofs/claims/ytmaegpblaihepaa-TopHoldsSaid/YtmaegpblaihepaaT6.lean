/- stop, by a contract. -/
import Derived.Test.YtmaegpblaihepaaWc
import Derived.Test.YtmaegpblaihepaaT5
import Derived.Test.YtmaegpblaihepaaT2
namespace Go.Proofs.Ytmaegpblaihepaa.F
open Go.RowKit Go.Proofs.YtmaegpblaihepaaW.PrintWords Go.Proofs.YtmaegpblaihepaaW.PrintLast Go.Proofs.YtmaegpblaihepaaW.PrintMore
attribute [local go_sem] max2_int min2_int max_two min_two max_three min_three max_four min_four
set_option linter.unusedVariables false
set_option linter.unusedSimpArgs false
/-- what stop makes of s -/
def StopP (s s' : CS) : Prop := ∃ p b x y z n k, PieceP { s with pl := [], at_ := 0, bra := false } p b ∧ s.pcs.length ≤ 1000000 ∧ PosP { s with pl := [], at_ := 0, bra := false, pcs := (if b = true then s.pcs ++ [p] else s.pcs) } x y z ∧ 0 ≤ s.ix ∧ s.ix < (s.ms.length : Int) ∧ controller_length.f k (rd_T55 s.ms s.ix).f0.f0 (rd_T55 s.ms s.ix).f0.f1 (rd_T55 s.ms s.ix).f0.f2 (rd_T55 s.ms s.ix).f1.f0 (rd_T55 s.ms s.ix).f1.f1 (rd_T55 s.ms s.ix).f1.f2 (rd_T55 s.ms s.ix).f2 (rd_T55 s.ms s.ix).f3 (rd_T55 s.ms s.ix).f4 = some n ∧ (if wrap64 (n - s.pt) = 0 then ∃ kk j, 0 ≤ wrap64 (s.ix + 1) ∧ SkipTo kk s.ms (wrap64 (s.ix + 1)) j ∧ s' = { s with pl := [], at_ := 0, bra := false, pcs := (if b = true then s.pcs ++ [p] else s.pcs), lx := x, ly := y, lz := z, ix := j, pt := 0 } else s' = { s with pl := [], at_ := 0, bra := false, pcs := (if b = true then s.pcs ++ [p] else s.pcs), lx := x, ly := y, lz := z })
set_option maxRecDepth 100000 in
set_option maxHeartbeats 8000000 in
theorem controller_stop.calls (s' : CS) {B g : Nat} {s : CS} {w : World} (hs : Ctl B w g s) (hp : StopP s s') : Calls Try.prog 28 #[.pointer (some ⟨g, 0, none⟩)] w fun e w' => e = .returned (.tuple #[]) ∧ Ctl B w' g s' ∧ Below B w w' := by
 unfold StopP at hp
 obtain ⟨p, b, x, y, z, n, k, hpc, hpl, hpos, h0, h1, hl, hend⟩ := hp
 obtain ⟨ms, sp, ac, je, ix, pt, pl, at_, bra, held, brk, pcs, lx, ly, lz⟩ := s
 dsimp only at hpc hpl hpos h0 h1 hl hend
 obtain ⟨pcs2, hpcs2⟩ : ∃ q, (if b = true then pcs ++ [p] else pcs) = q := ⟨_, rfl⟩
 rw [hpcs2] at hpos hend
 have HS := Aside0.mk hs
 have HPC := Aside0.mk hpc
 have HPL := Aside0.mk hpl
 have HPO := Aside0.mk hpos
 have H0 := Aside0.mk h0
 have H1 := Aside0.mk h1
 have HL := Aside0.mk hl
 have HE := Aside0.mk hend
 have HQ2 := Aside0.mk hpcs2
 clear hs hpc hpl hpos h0 h1 hl hend hpcs2
 have hu42 := Try.underlying42
 have hu55 := Try.underlying55
 go_enter Try.func28, Try.ntmps28
 go_step
 go_step
 go_cut [] (fun wc => Aside0 (Ctl B wc g (⟨ms, sp, ac, je, ix, pt, [], 0, false, held, brk, pcs, lx, ly, lz⟩ : CS)) ∧ Aside0 (Below B w wc))
 case first =>
  obtain ⟨hBg, AM, cM, AP, cP, AQ, cQ, hbox, hm1, hp1, hq1, hM, hP, hQ⟩ := HS.out.open_
  dsimp only at hbox hm1 hp1 hq1 hM hP hQ
  have HS := Aside0.mk HS.out
  have BKg := Aside0.mk hbox
  have RM := Aside0.mk hM
  have RP := Aside0.mk hP
  have RQ := Aside0.mk hQ
  have GEg := Aside0.mk hBg
  have HM1 := Aside0.mk hm1
  have HP1 := Aside0.mk hp1
  have HQ1 := Aside0.mk hq1
  clear HS hbox hM hP hQ hBg hm1 hp1 hq1
  have hc6 : w.cell? ⟨g, 6, none⟩ = some (.slice AP pl.length cP) := (blk_cell BKg.out 6).trans rfl
  have hc7 : w.cell? ⟨g, 7, none⟩ = some (.int .i64 at_) := (blk_cell BKg.out 7).trans rfl
  have hc8 : w.cell? ⟨g, 8, none⟩ = some (.bool bra) := (blk_cell BKg.out 8).trans rfl
  have hf6 := blk_frozen BKg.out 6
  have hf7 := blk_frozen BKg.out 7
  have hf8 := blk_frozen BKg.out 8
  go_wp2
  go_meet
  case rel => exact ⟨⟨((HS.out.setPl (Kd.R_nil _ _ _ _ _)).set_ (s' := (⟨ms, sp, ac, je, ix, pt, [], 0, bra, held, brk, pcs, lx, ly, lz⟩ : CS)) 7 _ (fun _ _ _ => rfl) rfl rfl rfl).set_ 8 _ (fun _ _ _ => rfl) rfl rfl rfl⟩, ⟨(((Below.refl B w).setCell GEg.out _).setCell GEg.out _).setCell GEg.out _⟩⟩
 case rest =>
  clear HS
  obtain ⟨HS, HB⟩ := hcut
  go_step
  go_step
  go_cut [] (fun wc => Aside0 (Ctl B wc g (⟨ms, sp, ac, je, ix, pt, [], 0, false, held, brk, pcs2, lx, ly, lz⟩ : CS)) ∧ Aside0 (Below B w wc))
  case first =>
   go_upto_region 2 with (first | (go_at_call 33; (with_reducible refine (controller_piece.calls p b HS.out HPC.out).mono ?_); rintro e w2 ⟨rfl, hb⟩; have HS2 := Aside0.mk (HS.out.below hb); have HB2 := Aside0.mk (below_then HB.out HS.out.le hb); clear hb) | ((with_reducible refine gate_dst (N := 2) rfl ?_); refine box_event ?hg (N := 2) ?hd (cs := #[.int .i64 0, .int .i64 0, .int .i64 0, .int .i64 0, .int .i64 0, .int .i64 0, .int .i64 0, .int .i64 0, .int .i64 0]) (t := 55) ?hr ?_; (case hd => rfl); (case hg => rfl); (case hr => first | (go_simp; done) | (go_simp; rfl)); intro m hg wm hbox hb; have BKm := Aside0.mk hbox; have HBm := Aside0.mk hb; have HGm : Aside0 (w2.heap.size ≤ m) := ⟨(by rw [hg]; exact Nat.le_refl _)⟩; clear hg hbox hb; have hm0 : wm.cell? ⟨m, 0, none⟩ = some (.int .i64 0) := (blk_cell BKm.out 0).trans rfl; have hm1 : wm.cell? ⟨m, 1, none⟩ = some (.int .i64 0) := (blk_cell BKm.out 1).trans rfl; have hm2 : wm.cell? ⟨m, 2, none⟩ = some (.int .i64 0) := (blk_cell BKm.out 2).trans rfl; have hm3 : wm.cell? ⟨m, 3, none⟩ = some (.int .i64 0) := (blk_cell BKm.out 3).trans rfl; have hm4 : wm.cell? ⟨m, 4, none⟩ = some (.int .i64 0) := (blk_cell BKm.out 4).trans rfl; have hm5 : wm.cell? ⟨m, 5, none⟩ = some (.int .i64 0) := (blk_cell BKm.out 5).trans rfl; have hm6 : wm.cell? ⟨m, 6, none⟩ = some (.int .i64 0) := (blk_cell BKm.out 6).trans rfl; have hm7 : wm.cell? ⟨m, 7, none⟩ = some (.int .i64 0) := (blk_cell BKm.out 7).trans rfl; have hm8 : wm.cell? ⟨m, 8, none⟩ = some (.int .i64 0) := (blk_cell BKm.out 8).trans rfl; have hmf0 := blk_frozen BKm.out 0; have hmf1 := blk_frozen BKm.out 1; have hmf2 := blk_frozen BKm.out 2; have hmf3 := blk_frozen BKm.out 3; have hmf4 := blk_frozen BKm.out 4; have hmf5 := blk_frozen BKm.out 5; have hmf6 := blk_frozen BKm.out 6; have hmf7 := blk_frozen BKm.out 7; have hmf8 := blk_frozen BKm.out 8))
   generalize hwf : World.setCell _ _ _ = wf
   have BKM : Aside0 (wf.heap[m]? = some (.cells #[.int .i64 p.f0.f0, .int .i64 p.f0.f1, .int .i64 p.f0.f2, .int .i64 p.f1.f0, .int .i64 p.f1.f1, .int .i64 p.f1.f2, .int .i64 p.f2, .int .i64 p.f3, .int .i64 p.f4] 55 (0, 0))) := ⟨by rw [← hwf]; exact (by refine blk_put (cs := #[.int .i64 p.f0.f0, .int .i64 p.f0.f1, .int .i64 p.f0.f2, .int .i64 p.f1.f0, .int .i64 p.f1.f1, .int .i64 p.f1.f2, .int .i64 p.f2, .int .i64 p.f3, .int .i64 0]) ?_ 8 _ rfl; refine blk_put (cs := #[.int .i64 p.f0.f0, .int .i64 p.f0.f1, .int .i64 p.f0.f2, .int .i64 p.f1.f0, .int .i64 p.f1.f1, .int .i64 p.f1.f2, .int .i64 p.f2, .int .i64 0, .int .i64 0]) ?_ 7 _ rfl; refine blk_put (cs := #[.int .i64 p.f0.f0, .int .i64 p.f0.f1, .int .i64 p.f0.f2, .int .i64 p.f1.f0, .int .i64 p.f1.f1, .int .i64 p.f1.f2, .int .i64 0, .int .i64 0, .int .i64 0]) ?_ 6 _ rfl; refine blk_put (cs := #[.int .i64 p.f0.f0, .int .i64 p.f0.f1, .int .i64 p.f0.f2, .int .i64 p.f1.f0, .int .i64 p.f1.f1, .int .i64 0, .int .i64 0, .int .i64 0, .int .i64 0]) ?_ 5 _ rfl; refine blk_put (cs := #[.int .i64 p.f0.f0, .int .i64 p.f0.f1, .int .i64 p.f0.f2, .int .i64 p.f1.f0, .int .i64 0, .int .i64 0, .int .i64 0, .int .i64 0, .int .i64 0]) ?_ 4 _ rfl; refine blk_put (cs := #[.int .i64 p.f0.f0, .int .i64 p.f0.f1, .int .i64 p.f0.f2, .int .i64 0, .int .i64 0, .int .i64 0, .int .i64 0, .int .i64 0, .int .i64 0]) ?_ 3 _ rfl; refine blk_put (cs := #[.int .i64 p.f0.f0, .int .i64 p.f0.f1, .int .i64 0, .int .i64 0, .int .i64 0, .int .i64 0, .int .i64 0, .int .i64 0, .int .i64 0]) ?_ 2 _ rfl; refine blk_put (cs := #[.int .i64 p.f0.f0, .int .i64 0, .int .i64 0, .int .i64 0, .int .i64 0, .int .i64 0, .int .i64 0, .int .i64 0, .int .i64 0]) ?_ 1 _ rfl; refine blk_put (cs := #[.int .i64 0, .int .i64 0, .int .i64 0, .int .i64 0, .int .i64 0, .int .i64 0, .int .i64 0, .int .i64 0, .int .i64 0]) ?_ 0 _ rfl; exact BKm.out)⟩
   have HBf : Aside0 (Below w2.heap.size w2 wf) := ⟨by rw [← hwf]; exact (((((((((HBm.out.setCell HGm.out _).setCell HGm.out _).setCell HGm.out _).setCell HGm.out _).setCell HGm.out _).setCell HGm.out _).setCell HGm.out _).setCell HGm.out _).setCell HGm.out _)⟩
   have HSf := Aside0.mk (HS2.out.below HBf.out)
   have HBg := Aside0.mk (below_then HB2.out HS2.out.le HBf.out)
   clear hwf BKm HBm HBf HS2 HB2 HS HB HGm hm0 hm1 hm2 hm3 hm4 hm5 hm6 hm7 hm8 hmf0 hmf1 hmf2 hmf3 hmf4 hmf5 hmf6 hmf7 hmf8
   cases b with
   | false =>
    have e2 : pcs = pcs2 := HQ2.out
    subst e2
    go_wp2
    go_meet
    case rel => exact ⟨HSf, HBg⟩
   | true =>
    have e2 : pcs ++ [p] = pcs2 := HQ2.out
    subst e2
    go_upto_region 3 with (fail)
    obtain ⟨hBg, AM, cM, AP, cP, AQ, cQ, hbox, hm1, hp1, hq1, hM, hP, hQ⟩ := HSf.out.open_
    dsimp only at hbox hm1 hp1 hq1 hM hP hQ
    have HS := Aside0.mk HSf.out
    have BKg := Aside0.mk hbox
    have RM := Aside0.mk hM
    have RP := Aside0.mk hP
    have RQ := Aside0.mk hQ
    have GEg := Aside0.mk hBg
    have HM1 := Aside0.mk hm1
    have HP1 := Aside0.mk hp1
    have HQ1 := Aside0.mk hq1
    clear HSf hbox hM hP hQ hBg hm1 hp1 hq1
    have hc11 : wf.cell? ⟨g, 11, none⟩ = some (.slice AQ pcs.length cQ) := (blk_cell BKg.out 11).trans rfl
    have hm0 : wf.cell? ⟨m, 0, none⟩ = some (.int .i64 p.f0.f0) := (blk_cell BKM.out 0).trans rfl
    have hm1 : wf.cell? ⟨m, 1, none⟩ = some (.int .i64 p.f0.f1) := (blk_cell BKM.out 1).trans rfl
    have hm2 : wf.cell? ⟨m, 2, none⟩ = some (.int .i64 p.f0.f2) := (blk_cell BKM.out 2).trans rfl
    have hm3 : wf.cell? ⟨m, 3, none⟩ = some (.int .i64 p.f1.f0) := (blk_cell BKM.out 3).trans rfl
    have hm4 : wf.cell? ⟨m, 4, none⟩ = some (.int .i64 p.f1.f1) := (blk_cell BKM.out 4).trans rfl
    have hm5 : wf.cell? ⟨m, 5, none⟩ = some (.int .i64 p.f1.f2) := (blk_cell BKM.out 5).trans rfl
    have hm6 : wf.cell? ⟨m, 6, none⟩ = some (.int .i64 p.f2) := (blk_cell BKM.out 6).trans rfl
    have hm7 : wf.cell? ⟨m, 7, none⟩ = some (.int .i64 p.f3) := (blk_cell BKM.out 7).trans rfl
    have hm8 : wf.cell? ⟨m, 8, none⟩ = some (.int .i64 p.f4) := (blk_cell BKM.out 8).trans rfl
    refine start_ (n := 11) (S := fun w' => Below wf.heap.size wf w' ∧ w'.cell? ⟨g, 11, none⟩ = some (.slice AQ pcs.length cQ) ∧ w'.cell? ⟨m, 0, none⟩ = some (.int .i64 p.f0.f0) ∧ w'.cell? ⟨m, 1, none⟩ = some (.int .i64 p.f0.f1) ∧ w'.cell? ⟨m, 2, none⟩ = some (.int .i64 p.f0.f2) ∧ w'.cell? ⟨m, 3, none⟩ = some (.int .i64 p.f1.f0) ∧ w'.cell? ⟨m, 4, none⟩ = some (.int .i64 p.f1.f1) ∧ w'.cell? ⟨m, 5, none⟩ = some (.int .i64 p.f1.f2) ∧ w'.cell? ⟨m, 6, none⟩ = some (.int .i64 p.f2) ∧ w'.cell? ⟨m, 7, none⟩ = some (.int .i64 p.f3) ∧ w'.cell? ⟨m, 8, none⟩ = some (.int .i64 p.f4)) (ds := [7, 10]) #[false, false, false, false, false, false, false, false, false, false, false] (by kernel_rfl) rfl rfl ⟨below_drew (Below.refl _ _), pw_cell_below (below_drew (Below.refl _ _)) hc11, pw_cell_below (below_drew (Below.refl _ _)) hm0, pw_cell_below (below_drew (Below.refl _ _)) hm1, pw_cell_below (below_drew (Below.refl _ _)) hm2, pw_cell_below (below_drew (Below.refl _ _)) hm3, pw_cell_below (below_drew (Below.refl _ _)) hm4, pw_cell_below (below_drew (Below.refl _ _)) hm5, pw_cell_below (below_drew (Below.refl _ _)) hm6, pw_cell_below (below_drew (Below.refl _ _)) hm7, pw_cell_below (below_drew (Below.refl _ _)) hm8⟩ (fun hHeld => ?_)
    generalize World.drew _ = wd at hHeld ⊢
    have HSd := Aside0.mk (HS.out.below hHeld.1)
    have BKd := Aside0.mk (blk_below BKg.out hHeld.1)
    have RMd := Aside0.mk (Kd.R_below RM.out hHeld.1)
    have RPd := Aside0.mk (Kd.R_below RP.out hHeld.1)
    have RQd := Aside0.mk (Kd.R_below RQ.out hHeld.1)
    have HBd := Aside0.mk (below_then HBg.out HS.out.le hHeld.1)
    have HLd := Aside0.mk HSd.out.le
    have HFd : Aside0 (∀ k, wd.heap.size ≤ k → k ≠ g ∧ some k ≠ (Value.slice AM ms.length cM).ownBlock) := ⟨fun k hk => ⟨by have := blk_lt BKd.out; omega, fun e => by have := Kd.R_lt RMd.out k e.symm; omega⟩⟩
    refine pu 0 19 (bzz 11 1) (by kernel_rfl) ?_
    refine pu 1 20 (bzz 11 3) (by kernel_rfl) ?_
    refine pu 2 21 (bzz 11 7) (by kernel_rfl) ?_
    refine pu 3 22 (bzz 11 15) (by kernel_rfl) ?_
    refine ta 4 23 (bzz 11 31) (by kernel_rfl) hHeld ?_
    refine ta 5 24 (bzz 11 63) (by kernel_rfl) hHeld ?_
    refine one_ (i := 6) (N := some 25) (bzz 11 127) rfl rfl (by kernel_rfl) (by decide) (fun K hK => ?_)
    refine value_ (w1 := ?_) (v := ?_) (by rfl) rfl ?_ ?_
    rotate_left 2
    · go_simp
      constructor
      · rfl
      · rfl
    refine hK.out _ _ ⟨below_alloc hHeld.1 _, pw_cell_below (below_alloc hHeld.1 _) hc11, pw_cell_below (below_alloc hHeld.1 _) hm0, pw_cell_below (below_alloc hHeld.1 _) hm1, pw_cell_below (below_alloc hHeld.1 _) hm2, pw_cell_below (below_alloc hHeld.1 _) hm3, pw_cell_below (below_alloc hHeld.1 _) hm4, pw_cell_below (below_alloc hHeld.1 _) hm5, pw_cell_below (below_alloc hHeld.1 _) hm6, pw_cell_below (below_alloc hHeld.1 _) hm7, pw_cell_below (below_alloc hHeld.1 _) hm8⟩ (fun hHeld => ?_)
    clear hK K
    refine norm_ (a' := ?_) ?_ ?_
    rotate_left
    · show Act.put _ (some 25) _ = _
      simp only [Act.put, List.setIfInBounds_toArray, List.set_cons_zero, List.set_cons_succ, i64_w, i32_w]
      rfl
    refine last_ (i := 7) (N := some 26) (bzz 11 255) rfl rfl (by kernel_rfl) (by decide) (fun K hK => ?_)
    refine Kd.R_append_step k55 (w0 := w) B (by rfl) (.tmp 23) (.tmp 25) 30 55 (.agg #[.int .i64 0, .int .i64 0, .int .i64 0, .int .i64 0, .int .i64 0, .int .i64 0, .int .i64 0, .int .i64 0, .int .i64 0]) 72 rfl Try.underlying30 info55 rfl (by decide) (by omega) (.slice AQ pcs.length cQ) pcs p [.int .i64 p.f0.f0, .int .i64 p.f0.f1, .int .i64 p.f0.f2, .int .i64 p.f1.f0, .int .i64 p.f1.f1, .int .i64 p.f1.f2, .int .i64 p.f2, .int .i64 p.f3, .int .i64 p.f4] (fun k => k ≠ g ∧ some k ≠ (Value.slice AM ms.length cM).ownBlock) (fun _ => False) rfl rfl ?aP (fun _ hk => hk.elim) ?aF ?aO ?aB ?aS ?aL ?_
    (case aP => exact k55_mkM _ _ _ p)
    (case aB => exact HBd.out)
    (case aF => exact HFd.out)
    (case aO => exact RQd.out)
    (case aS => exact HLd.out)
    (case aL => have := HPL.out; omega)
    intro v9 w9 ho hb hg hat
    have RN := Aside0.mk ho
    have HBn := Aside0.mk hb
    have HGn := Aside0.mk hg
    clear ho hb hg hat
    have e1 : some g ≠ (Value.slice AQ pcs.length cQ).ownBlock := fun e => (RQd.out.1 g e.symm).1 rfl
    have BKn := Aside0.mk (blk_grown BKd.out HGn.out e1)
    obtain ⟨A9, c9, e9⟩ := Kd.R_slice RN.out
    subst e9
    have hn11 : w9.cell? ⟨g, 11, none⟩ = some (.slice AQ pcs.length cQ) := (blk_cell BKn.out 11).trans rfl
    have hnf := blk_frozen BKn.out 11
    refine hK.out _ _ ?_
    clear hK K
    refine norm_ (a' := ?_) ?_ ?_
    rotate_left
    · show Act.put _ (some 26) _ = _
      simp only [Act.put, List.setIfInBounds_toArray, List.set_cons_zero, List.set_cons_succ, i64_w, i32_w]
      rfl
    refine pu 8 27 (bzz 11 511) (by kernel_rfl) ?_
    refine pu 9 28 (bzz 11 1023) (by kernel_rfl) ?_
    refine last_ (i := 10) (N := none) (bzz 11 2047) rfl rfl (by kernel_rfl) (by decide) (fun K hK => ?_)
    refine skip_ (w1 := ?_) (by rfl) rfl ?_ ?_
    rotate_left
    · go_simp
      rfl
    refine hK.out _ _ ?_
    clear hK K
    refine done_ (by kernel_rfl) ?_
    have RN2 := RN.out
    simp only [List.length_append, List.length_cons, List.length_nil, Nat.zero_add] at RN2
    go_wp2
    go_meet
    case rel => exact ⟨⟨HSd.out.app ⟨_, _, _, BKd.out, RMd.out, RPd.out, RQd.out, RN2, HGn.out⟩⟩, ⟨HBn.out.setCell GEg.out _⟩⟩
  case rest =>
   clear HS HB HPC
   obtain ⟨HS, HB⟩ := hcut
   go_step
   go_step
   go_cut [] (fun wc => Aside0 (Ctl B wc g (⟨ms, sp, ac, je, ix, pt, [], 0, false, held, brk, pcs2, x, y, z⟩ : CS)) ∧ Aside0 (Below B w wc))
   case first =>
    go_wp2_with (first | (go_at_call 10; (with_reducible refine (controller_Position.calls x y z HS.out HPO.out).mono ?_); rintro e w2 ⟨rfl, hb⟩; have HS2 := Aside0.mk (HS.out.below hb); have HB2 := Aside0.mk (below_then HB.out HS.out.le hb); clear hb; obtain ⟨hBg2, AM, cM, AP, cP, AQ, cQ, hbox2, _⟩ := HS2.out.open_; dsimp only at hbox2; have BK2 := Aside0.mk hbox2; clear hbox2; have hc12 : w2.cell? ⟨g, 12, none⟩ = some (.int .i64 lx) := (blk_cell BK2.out 12).trans rfl; have hc13 : w2.cell? ⟨g, 13, none⟩ = some (.int .i64 ly) := (blk_cell BK2.out 13).trans rfl; have hc14 : w2.cell? ⟨g, 14, none⟩ = some (.int .i64 lz) := (blk_cell BK2.out 14).trans rfl; have hf12 := blk_frozen BK2.out 12; have hf13 := blk_frozen BK2.out 13; have hf14 := blk_frozen BK2.out 14))
    go_meet
    case rel => exact ⟨⟨((HS2.out.set_ (s' := (⟨ms, sp, ac, je, ix, pt, [], 0, false, held, brk, pcs2, x, ly, lz⟩ : CS)) 12 _ (fun _ _ _ => rfl) rfl rfl rfl).set_ (s' := (⟨ms, sp, ac, je, ix, pt, [], 0, false, held, brk, pcs2, x, y, lz⟩ : CS)) 13 _ (fun _ _ _ => rfl) rfl rfl rfl).set_ 14 _ (fun _ _ _ => rfl) rfl rfl rfl⟩, ⟨((HB2.out.setCell hBg2 _).setCell hBg2 _).setCell hBg2 _⟩⟩
   case rest =>
    clear HS HB
    obtain ⟨HS, HB⟩ := hcut
    have he := HE.out
    clear HE HPO HPL HQ2
    by_cases c : wrap64 (n - pt) = 0
    · rw [if_pos c] at he
      obtain ⟨kk, j, hj0, hj, rfl⟩ := he
      have HJ0 := Aside0.mk hj0
      have HJ := Aside0.mk hj
      clear hj0 hj
      have cb : (wrap64 (n - pt) == 0) = true := beq_iff_eq.mpr c
      clear c
      go_upto_region 6 with (first | (go_at_call 26; (with_reducible refine (controller_left.calls k n HS.out H0.out H1.out HL.out).mono ?_); rintro e w2 ⟨rfl, hb⟩; have HS2 := Aside0.mk (HS.out.below hb); have HB2 := Aside0.mk (below_then HB.out HS.out.le hb); clear hb))
      obtain ⟨hBg2, AM, cM, AP, cP, AQ, cQ, hbox2, _⟩ := HS2.out.open_
      dsimp only at hbox2
      have BK2 := Aside0.mk hbox2
      clear hbox2
      have hc4 : w2.cell? ⟨g, 4, none⟩ = some (.int .i64 ix) := (blk_cell BK2.out 4).trans rfl
      have hc5 : w2.cell? ⟨g, 5, none⟩ = some (.int .i64 pt) := (blk_cell BK2.out 5).trans rfl
      have hf4 := blk_frozen BK2.out 4
      have hf5 := blk_frozen BK2.out 5
      go_upto_region 7 with (fail)
      generalize hwf : World.setCell _ _ _ = wf
      have HSf : Aside0 (Ctl B wf g (⟨ms, sp, ac, je, (wrap64 (ix + 1)), 0, [], 0, false, held, brk, pcs2, x, y, z⟩ : CS)) := ⟨by rw [← hwf]; exact (HS2.out.set_ (s' := (⟨ms, sp, ac, je, (wrap64 (ix + 1)), pt, [], 0, false, held, brk, pcs2, x, y, z⟩ : CS)) 4 _ (fun _ _ _ => rfl) rfl rfl rfl).set_ 5 _ (fun _ _ _ => rfl) rfl rfl rfl⟩
      have HBf : Aside0 (Below B w wf) := ⟨by rw [← hwf]; exact (HB2.out.setCell hBg2 _).setCell hBg2 _⟩
      clear hwf HS2 HB2 hc4 hc5 hf4 hf5 BK2
      go_wp2_with (first | (go_at_call 23; (with_reducible refine (controller_skip.calls kk j HSf.out HJ0.out HJ.out).mono ?_); rintro e w3 ⟨rfl, hs3, hb3⟩; have HS3 := Aside0.mk hs3; have HB3 := Aside0.mk hb3; clear hs3 hb3))
      go_end0
      exact ⟨rfl, HS3.out, HBf.out.trans HB3.out⟩
    · rw [if_neg c] at he
      subst he
      have cb : (wrap64 (n - pt) == 0) = false := beq_eq_false_iff_ne.mpr c
      clear c
      go_wp2_with (first | (go_at_call 26; (with_reducible refine (controller_left.calls k n HS.out H0.out H1.out HL.out).mono ?_); rintro e w2 ⟨rfl, hb⟩; have HS2 := Aside0.mk (HS.out.below hb); have HB2 := Aside0.mk (below_then HB.out HS.out.le hb); clear hb))
      go_end0
      exact ⟨rfl, HS2.out, HB2.out⟩
end Go.Proofs.Ytmaegpblaihepaa.F
