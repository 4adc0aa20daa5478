/- A run of ticks; awake51, by a contract. -/
import Derived.Test.YtmaegpblaihepaaWc
import Derived.Test.YtmaegpblaihepaaT7
import Derived.Test.YtmaegpblaihepaaT9
import Derived.Test.YtmaegpblaihepaaT10
import Derived.Test.YtmaegpblaihepaaFa
namespace Go.Proofs.Ytmaegpblaihepaa.F
open Go.RowKit Go.Proofs.YtmaegpblaihepaaW.PrintWords Go.Proofs.YtmaegpblaihepaaW.PrintLast Go.Proofs.YtmaegpblaihepaaW.PrintMore
attribute [local go_sem] max2_int min2_int max_two min_two max_three min_three max_four min_four
set_option linter.unusedVariables false
set_option linter.unusedSimpArgs false
attribute [local go_sem high] eqA42 eqA55
def StopsP (s : CS) : Prop := (s.ix = (s.ms.length : Int) ∨ (s.ix ≠ (s.ms.length : Int) ∧ s.at_ = (s.pl.length : Int) ∧ s.held = true)) ∧ s.brk = false
/-- ticks until the controller stops; n counts them, at most lim -/
def RunP (lim : Int) : Nat → CS → CS → Int → Int → Prop
 | 0, _, _, _, _ => False
 | k + 1, s, s', n, n' => (StopsP s ∧ s' = s ∧ n' = n) ∨ (∃ s1 s2, BeginP s s1 ∧ AdvP s1 s2 ∧ ¬ wrap64 (n + 1) > lim ∧ RunP lim k s2 s' (wrap64 (n + 1)) n')
def AwakeP (k : Nat) : Prop := ∃ j s' n' mp b, controller_check.f k [(⟨⟨0, 0, 0⟩, ⟨500, -200, 0⟩, 40000, 2, 0⟩ : S55)] 100 50 60 = some 0 ∧ SkipTo k [(⟨⟨0, 0, 0⟩, ⟨500, -200, 0⟩, 40000, 2, 0⟩ : S55)] 0 j ∧ RunP 2000 k ({ ms := [(⟨⟨0, 0, 0⟩, ⟨500, -200, 0⟩, 40000, 2, 0⟩ : S55)], sp := 100, ac := 50, je := 60, ix := j, pt := 0, pl := [], at_ := 0, bra := false, held := false, brk := false, pcs := [], lx := (rd_T55 [(⟨⟨0, 0, 0⟩, ⟨500, -200, 0⟩, 40000, 2, 0⟩ : S55)] 0).f0.f0, ly := (rd_T55 [(⟨⟨0, 0, 0⟩, ⟨500, -200, 0⟩, 40000, 2, 0⟩ : S55)] 0).f0.f1, lz := (rd_T55 [(⟨⟨0, 0, 0⟩, ⟨500, -200, 0⟩, 40000, 2, 0⟩ : S55)] 0).f0.f2 } : CS) s' 0 n' ∧ n' > 0 ∧ s'.at_ = (s'.pl.length : Int) ∧ PieceP s' mp b ∧ s'.pcs = [(⟨⟨0, 0, 0⟩, ⟨500, -200, 0⟩, 40000, 2, 0⟩ : S55)] ∧ PosP s' 500 (-200) 0
set_option maxRecDepth 100000 in
set_option maxHeartbeats 8000000 in
theorem swarftop_awake51.calls (k : Nat) {w : World} (h : AwakeP k) : Calls Try.prog 5 #[] w fun e w' => e = .returned (.bool true) ∧ Below w.heap.size w w' := by
 have hu31 := Try.underlying31
 have hu42 := Try.underlying42
 have hu55 := Try.underlying55
 have hu30 := Try.underlying30
 obtain ⟨j, s', n', mp, b, hck, hsk, hrun, hn, hrest, hpc, hpcs, hpos⟩ := h
 have CK := Aside0.mk hck
 have SK := Aside0.mk hsk
 have RUN := Aside0.mk hrun
 have HN := Aside0.mk hn
 have RST := Aside0.mk hrest
 have PC := Aside0.mk hpc
 have PCS := Aside0.mk hpcs
 have POS := Aside0.mk hpos
 clear hck hsk hrun hn hrest hpc hpcs hpos
 have HB := Aside0.mk (Below.refl w.heap.size w)
 go_enter Try.func5, Try.ntmps5
 go_upto_region 2 with (first | ((with_reducible refine gate_dst (N := 1) rfl ?_); refine box_event ?hg (N := 1) ?hd (cs := #[.int .i64 0, .int .i64 0, .int .i64 0, .int .i64 0, .int .i64 0, .int .i64 0, .int .i64 0, .int .i64 0, .int .i64 0]) (t := 55) ?hr ?_; (case hd => rfl); (case hg => rfl); (case hr => first | (go_simp; done) | (go_simp; rfl)); intro q hg wq hbox hb; have BKq := Aside0.mk hbox; have HBq := Aside0.mk hb; have HGq : Aside0 (w.heap.size ≤ q) := ⟨(by rw [hg]; exact Nat.le_refl _)⟩; clear hg hbox hb; have hm0 : wq.cell? ⟨q, 0, none⟩ = some (.int .i64 0) := (blk_cell BKq.out 0).trans rfl; have hm1 : wq.cell? ⟨q, 1, none⟩ = some (.int .i64 0) := (blk_cell BKq.out 1).trans rfl; have hm2 : wq.cell? ⟨q, 2, none⟩ = some (.int .i64 0) := (blk_cell BKq.out 2).trans rfl; have hm3 : wq.cell? ⟨q, 3, none⟩ = some (.int .i64 0) := (blk_cell BKq.out 3).trans rfl; have hm4 : wq.cell? ⟨q, 4, none⟩ = some (.int .i64 0) := (blk_cell BKq.out 4).trans rfl; have hm5 : wq.cell? ⟨q, 5, none⟩ = some (.int .i64 0) := (blk_cell BKq.out 5).trans rfl; have hm6 : wq.cell? ⟨q, 6, none⟩ = some (.int .i64 0) := (blk_cell BKq.out 6).trans rfl; have hm7 : wq.cell? ⟨q, 7, none⟩ = some (.int .i64 0) := (blk_cell BKq.out 7).trans rfl; have hm8 : wq.cell? ⟨q, 8, none⟩ = some (.int .i64 0) := (blk_cell BKq.out 8).trans rfl; have hmf0 := blk_frozen BKq.out 0; have hmf1 := blk_frozen BKq.out 1; have hmf2 := blk_frozen BKq.out 2; have hmf3 := blk_frozen BKq.out 3; have hmf4 := blk_frozen BKq.out 4; have hmf5 := blk_frozen BKq.out 5; have hmf6 := blk_frozen BKq.out 6; have hmf7 := blk_frozen BKq.out 7; have hmf8 := blk_frozen BKq.out 8))
 generalize hq9 : World.setCell _ _ _ = wf
 have BKM : Aside0 (wf.heap[q]? = some (.cells #[.int .i64 0, .int .i64 0, .int .i64 0, .int .i64 500, .int .i64 (-200), .int .i64 0, .int .i64 40000, .int .i64 2, .int .i64 0] 55 (0, 0))) := ⟨by rw [← hq9]; refine blk_put (cs := #[.int .i64 0, .int .i64 0, .int .i64 0, .int .i64 500, .int .i64 (-200), .int .i64 0, .int .i64 40000, .int .i64 2, .int .i64 0]) ?_ 8 _ rfl; refine blk_put (cs := #[.int .i64 0, .int .i64 0, .int .i64 0, .int .i64 500, .int .i64 (-200), .int .i64 0, .int .i64 40000, .int .i64 0, .int .i64 0]) ?_ 7 _ rfl; refine blk_put (cs := #[.int .i64 0, .int .i64 0, .int .i64 0, .int .i64 500, .int .i64 (-200), .int .i64 0, .int .i64 0, .int .i64 0, .int .i64 0]) ?_ 6 _ rfl; refine blk_put (cs := #[.int .i64 0, .int .i64 0, .int .i64 0, .int .i64 500, .int .i64 (-200), .int .i64 0, .int .i64 0, .int .i64 0, .int .i64 0]) ?_ 5 _ rfl; refine blk_put (cs := #[.int .i64 0, .int .i64 0, .int .i64 0, .int .i64 500, .int .i64 0, .int .i64 0, .int .i64 0, .int .i64 0, .int .i64 0]) ?_ 4 _ rfl; refine blk_put (cs := #[.int .i64 0, .int .i64 0, .int .i64 0, .int .i64 0, .int .i64 0, .int .i64 0, .int .i64 0, .int .i64 0, .int .i64 0]) ?_ 3 _ rfl; refine blk_put (cs := #[.int .i64 0, .int .i64 0, .int .i64 0, .int .i64 0, .int .i64 0, .int .i64 0, .int .i64 0, .int .i64 0, .int .i64 0]) ?_ 2 _ rfl; refine blk_put (cs := #[.int .i64 0, .int .i64 0, .int .i64 0, .int .i64 0, .int .i64 0, .int .i64 0, .int .i64 0, .int .i64 0, .int .i64 0]) ?_ 1 _ rfl; refine blk_put (cs := #[.int .i64 0, .int .i64 0, .int .i64 0, .int .i64 0, .int .i64 0, .int .i64 0, .int .i64 0, .int .i64 0, .int .i64 0]) ?_ 0 _ rfl; exact BKq.out⟩
 have HBf : Aside0 (Below w.heap.size w wf) := ⟨by rw [← hq9]; exact (((((((((HBq.out.setCell HGq.out _).setCell HGq.out _).setCell HGq.out _).setCell HGq.out _).setCell HGq.out _).setCell HGq.out _).setCell HGq.out _).setCell HGq.out _).setCell HGq.out _)⟩
 clear hq9 BKq HBq HB hm0 hmf0 hm1 hmf1 hm2 hmf2 hm3 hmf3 hm4 hmf4 hm5 hmf5 hm6 hmf6 hm7 hmf7 hm8 hmf8
 have hm0 : wf.cell? ⟨q, 0, none⟩ = some (.int .i64 0) := (blk_cell BKM.out 0).trans rfl
 have hm1 : wf.cell? ⟨q, 1, none⟩ = some (.int .i64 0) := (blk_cell BKM.out 1).trans rfl
 have hm2 : wf.cell? ⟨q, 2, none⟩ = some (.int .i64 0) := (blk_cell BKM.out 2).trans rfl
 have hm3 : wf.cell? ⟨q, 3, none⟩ = some (.int .i64 500) := (blk_cell BKM.out 3).trans rfl
 have hm4 : wf.cell? ⟨q, 4, none⟩ = some (.int .i64 (-200)) := (blk_cell BKM.out 4).trans rfl
 have hm5 : wf.cell? ⟨q, 5, none⟩ = some (.int .i64 0) := (blk_cell BKM.out 5).trans rfl
 have hm6 : wf.cell? ⟨q, 6, none⟩ = some (.int .i64 40000) := (blk_cell BKM.out 6).trans rfl
 have hm7 : wf.cell? ⟨q, 7, none⟩ = some (.int .i64 2) := (blk_cell BKM.out 7).trans rfl
 have hm8 : wf.cell? ⟨q, 8, none⟩ = some (.int .i64 0) := (blk_cell BKM.out 8).trans rfl
 go_upto_block 0 with (first | ((with_reducible refine gate_dst (N := 10) rfl ?_); refine Kd.R_lit k55 _ 55 ?hg (N := 10) ?hd (xs := [(⟨⟨0, 0, 0⟩, ⟨500, -200, 0⟩, 40000, 2, 0⟩ : S55)]) (inner := [.int .i64 0, .int .i64 0, .int .i64 0, .int .i64 500, .int .i64 (-200), .int .i64 0, .int .i64 40000, .int .i64 2, .int .i64 0]) (ok := fun _ => True) (okp := fun _ => True) ?hr ?hp (fun _ hk => hk) trivial (Below.refl _ _) (Nat.le_refl _) (by simp) ?_; (case hd => rfl); (case hg => rfl); (case hr => first | (go_simp; done) | (go_simp; rfl)); (case hp => exact (Reps.c9 (show Kd.M k55 _ _ _ (⟨⟨0, 0, 0⟩, ⟨500, -200, 0⟩, 40000, 2, 0⟩ : S55) [.int .i64 0, .int .i64 0, .int .i64 0, .int .i64 500, .int .i64 (-200), .int .i64 0, .int .i64 40000, .int .i64 2, .int .i64 0] from (k55_mkM _ _ _ (⟨⟨0, 0, 0⟩, ⟨500, -200, 0⟩, 40000, 2, 0⟩ : S55))) (Reps.none _ _))); intro v1 w1 ho hb hg_ hnew_; have HO := Aside0.mk ho; obtain ⟨A1, c1, e1⟩ := Kd.R_slice ho; subst e1; have BKM1 := Aside0.mk (blk_below BKM.out hb); have HQ : Aside0 (q < w1.heap.size) := ⟨blk_lt BKM1.out⟩; have HB1 := Aside0.mk (below_step HBf.out hb); clear ho hb hg_ hnew_) | (go_at_call 6; have HNEW := controller_New.calls k k j A1 c1 [(⟨⟨0, 0, 0⟩, ⟨500, -200, 0⟩, 40000, 2, 0⟩ : S55)] 100 50 60 (Kd.R_reads' HO.out).2.2 (Kd.R_reads' HO.out).2.1 (by decide) CK.out SK.out; (try rw [List.length_singleton] at HNEW); (with_reducible refine HNEW.mono ?_); clear HNEW; rintro e w2 ⟨g, rfl, hs, hb⟩; have HS := Aside0.mk hs; have BKM2 := Aside0.mk (blk_below BKM1.out hb); have HB2 := Aside0.mk (below_step HB1.out hb); clear hs hb))
 go_wp2_with (fail)
 have HS0 := HS
 have HB0 : Aside0 (Below w1.heap.size w2 w2) := ⟨Below.refl _ _⟩
 clear HS0 HB0
 go_loopg [4] k (fun kq v4 w' => ∃ (n : Int) (s : CS), v4 = .int .i64 n ∧ Aside0 (RunP 2000 kq s s' n n') ∧ Aside0 (kq ≤ k) ∧ Aside0 (Ctl w1.heap.size w' g s) ∧ Aside0 (Below w1.heap.size w2 w'))
 case atStart => exact ⟨0, _, rfl, RUN, ⟨Nat.le_refl _⟩, HS, ⟨Below.refl _ _⟩⟩
 case round =>
  clear RUN HS
  obtain ⟨n, s, rfl, RUN, HK, HS, HBr⟩ := hrel
  cases gk with
  | zero => exact absurd RUN.out (by simp [RunP])
  | succ k1 =>
   have h := RUN.out
   clear RUN
   simp only [RunP] at h
   rcases h with ⟨hst, rfl, rfl⟩ | ⟨s1, s2, hbe, had, hlim, hrun⟩
   · have HST := Aside0.mk hst
     unfold StopsP at HST
     clear hst
     go_upto_region 10 with (first | (go_at_call 7; (with_reducible refine (controller_Tick.no HS.out HST.out.1 HST.out.2).mono ?_); rintro e w3 ⟨rfl, hb3⟩; have HS3 := Aside0.mk (HS.out.below hb3); have HB3 := Aside0.mk (below_then HBr.out HS.out.le hb3); clear hb3))
     have hnb : decide (0 < n') = true := decide_eq_true HN.out
     have BKM3 : Aside0 (w3.heap[q]? = some (.cells #[.int .i64 0, .int .i64 0, .int .i64 0, .int .i64 500, .int .i64 (-200), .int .i64 0, .int .i64 40000, .int .i64 2, .int .i64 0] 55 (0, 0))) := ⟨(HB3.out.block q HQ.out).trans BKM2.out⟩
     go_upto_region 11 with (first | (go_at_call 16; (with_reducible refine (controller_Done.calls mp b HS3.out PC.out RST.out (by rw [PCS.out]; decide)).mono ?_); rintro e w4 ⟨v4, rfl, hR, hb4⟩; rw [PCS.out] at hR; have HB4 := Aside0.mk (below_then HB3.out HS3.out.le hb4); have HS4 := Aside0.mk (HS3.out.below hb4); have BKM4 := Aside0.mk (blk_below BKM3.out hb4); have HO4 := Aside0.mk hR; clear hR hb4))
     obtain ⟨A4, c4, e4⟩ := Kd.R_slice HO4.out
     subst e4
     obtain ⟨ad, ea_, hx0, hx1, hx2, hx3, hx4, hx5, hx6, hx7, hx8⟩ := at_T55 (Kd.R_reads' HO4.out).2.2 0 (Int.le_refl 0) (by decide)
     subst ea_
     have ha0 : ad.add ((0 : Int).toNat * 9) = ad := by show ad.add 0 = ad; simp [Addr.add]
     rw [ha0] at hx0 hx1 hx2 hx3 hx4 hx5 hx6 hx7 hx8
     replace hx0 : w4.cell? ad = some (.int .i64 0) := hx0
     have hm0 : w4.cell? ⟨q, 0, none⟩ = some (.int .i64 0) := (blk_cell BKM4.out 0).trans rfl
     replace hx1 : w4.cell? ⟨ad.block, ad.off + 1, none⟩ = some (.int .i64 0) := hx1
     have hm1 : w4.cell? ⟨q, 1, none⟩ = some (.int .i64 0) := (blk_cell BKM4.out 1).trans rfl
     replace hx2 : w4.cell? ⟨ad.block, ad.off + 2, none⟩ = some (.int .i64 0) := hx2
     have hm2 : w4.cell? ⟨q, 2, none⟩ = some (.int .i64 0) := (blk_cell BKM4.out 2).trans rfl
     replace hx3 : w4.cell? ⟨ad.block, ad.off + 3, none⟩ = some (.int .i64 500) := hx3
     have hm3 : w4.cell? ⟨q, 3, none⟩ = some (.int .i64 500) := (blk_cell BKM4.out 3).trans rfl
     replace hx4 : w4.cell? ⟨ad.block, ad.off + 4, none⟩ = some (.int .i64 (-200)) := hx4
     have hm4 : w4.cell? ⟨q, 4, none⟩ = some (.int .i64 (-200)) := (blk_cell BKM4.out 4).trans rfl
     replace hx5 : w4.cell? ⟨ad.block, ad.off + 5, none⟩ = some (.int .i64 0) := hx5
     have hm5 : w4.cell? ⟨q, 5, none⟩ = some (.int .i64 0) := (blk_cell BKM4.out 5).trans rfl
     replace hx6 : w4.cell? ⟨ad.block, ad.off + 6, none⟩ = some (.int .i64 40000) := hx6
     have hm6 : w4.cell? ⟨q, 6, none⟩ = some (.int .i64 40000) := (blk_cell BKM4.out 6).trans rfl
     replace hx7 : w4.cell? ⟨ad.block, ad.off + 7, none⟩ = some (.int .i64 2) := hx7
     have hm7 : w4.cell? ⟨q, 7, none⟩ = some (.int .i64 2) := (blk_cell BKM4.out 7).trans rfl
     replace hx8 : w4.cell? ⟨ad.block, ad.off + 8, none⟩ = some (.int .i64 0) := hx8
     have hm8 : w4.cell? ⟨q, 8, none⟩ = some (.int .i64 0) := (blk_cell BKM4.out 8).trans rfl
     clear ha0
     refine start_ (n := 22) (S := fun w' => Below w4.heap.size w4 w' ∧ w'.cell? ad = some (.int .i64 0) ∧ w'.cell? ⟨ad.block, ad.off + 1, none⟩ = some (.int .i64 0) ∧ w'.cell? ⟨ad.block, ad.off + 2, none⟩ = some (.int .i64 0) ∧ w'.cell? ⟨ad.block, ad.off + 3, none⟩ = some (.int .i64 500) ∧ w'.cell? ⟨ad.block, ad.off + 4, none⟩ = some (.int .i64 (-200)) ∧ w'.cell? ⟨ad.block, ad.off + 5, none⟩ = some (.int .i64 0) ∧ w'.cell? ⟨ad.block, ad.off + 6, none⟩ = some (.int .i64 40000) ∧ w'.cell? ⟨ad.block, ad.off + 7, none⟩ = some (.int .i64 2) ∧ w'.cell? ⟨ad.block, ad.off + 8, none⟩ = some (.int .i64 0) ∧ w'.cell? ⟨q, 0, none⟩ = some (.int .i64 0) ∧ w'.cell? ⟨q, 1, none⟩ = some (.int .i64 0) ∧ w'.cell? ⟨q, 2, none⟩ = some (.int .i64 0) ∧ w'.cell? ⟨q, 3, none⟩ = some (.int .i64 500) ∧ w'.cell? ⟨q, 4, none⟩ = some (.int .i64 (-200)) ∧ w'.cell? ⟨q, 5, none⟩ = some (.int .i64 0) ∧ w'.cell? ⟨q, 6, none⟩ = some (.int .i64 40000) ∧ w'.cell? ⟨q, 7, none⟩ = some (.int .i64 2) ∧ w'.cell? ⟨q, 8, none⟩ = some (.int .i64 0)) (ds := []) #[false, false, false, false, false, false, false, false, false, false, false, false, false, false, false, false, false, false, false, false, false, false] (by kernel_rfl) rfl rfl ⟨below_drew (Below.refl _ _), pw_cell_below (below_drew (Below.refl _ _)) hx0, pw_cell_below (below_drew (Below.refl _ _)) hx1, pw_cell_below (below_drew (Below.refl _ _)) hx2, pw_cell_below (below_drew (Below.refl _ _)) hx3, pw_cell_below (below_drew (Below.refl _ _)) hx4, pw_cell_below (below_drew (Below.refl _ _)) hx5, pw_cell_below (below_drew (Below.refl _ _)) hx6, pw_cell_below (below_drew (Below.refl _ _)) hx7, pw_cell_below (below_drew (Below.refl _ _)) hx8, pw_cell_below (below_drew (Below.refl _ _)) hm0, pw_cell_below (below_drew (Below.refl _ _)) hm1, pw_cell_below (below_drew (Below.refl _ _)) hm2, pw_cell_below (below_drew (Below.refl _ _)) hm3, pw_cell_below (below_drew (Below.refl _ _)) hm4, pw_cell_below (below_drew (Below.refl _ _)) hm5, pw_cell_below (below_drew (Below.refl _ _)) hm6, pw_cell_below (below_drew (Below.refl _ _)) hm7, pw_cell_below (below_drew (Below.refl _ _)) hm8⟩ (fun hHeld => ?_)
     generalize World.drew _ = wd at hHeld ⊢
     refine pu 0 25 (bzz 22 1) (by kernel_rfl) ?_
     refine pu 1 26 (bzz 22 3) (by kernel_rfl) ?_
     refine pu 2 27 (bzz 22 7) (by kernel_rfl) ?_
     refine pu 3 28 (bzz 22 15) (by kernel_rfl) ?_
     refine pu 4 29 (bzz 22 31) (by kernel_rfl) ?_
     refine pu 5 30 (bzz 22 63) (by kernel_rfl) ?_
     refine pu 6 31 (bzz 22 127) (by kernel_rfl) ?_
     refine pu 7 32 (bzz 22 255) (by kernel_rfl) ?_
     refine pu 8 33 (bzz 22 511) (by kernel_rfl) ?_
     refine pu 9 34 (bzz 22 1023) (by kernel_rfl) ?_
     refine ta 10 35 (bzz 22 2047) (by kernel_rfl) hHeld ?_
     refine ta 11 36 (bzz 22 4095) (by kernel_rfl) hHeld ?_
     refine pu 12 37 (bzz 22 8191) (by kernel_rfl) ?_
     refine pu 13 38 (bzz 22 16383) (by kernel_rfl) ?_
     refine pu 14 39 (bzz 22 32767) (by kernel_rfl) ?_
     refine pu 15 40 (bzz 22 65535) (by kernel_rfl) ?_
     refine pu 17 42 (bzz 22 196607) (by kernel_rfl) ?_
     refine ta 18 43 (bzz 22 458751) (by kernel_rfl) hHeld ?_
     refine one_ (i := 16) (N := some 41) (bzz 22 524287) rfl rfl (by kernel_rfl) (by decide) (fun K hK => ?_)
     refine goes_ Try.func10 (by kernel_rfl) rfl #[.pointer (some ⟨g, 0, none⟩)] (by rfl) rfl rfl (by simp only [List.map_toArray, List.map_cons, List.map_nil]; rfl) ?_
     with_reducible refine (controller_Position.calls 500 (-200) 0 (HS4.out.below hHeld.1) POS.out).mono ?_
     rintro e5 w5 ⟨rfl, hb⟩
     refine ⟨_, rfl, ?_⟩
     refine hK.out _ _ ⟨below_step hHeld.1 hb, pw_cell_below (below_step hHeld.1 hb) hx0, pw_cell_below (below_step hHeld.1 hb) hx1, pw_cell_below (below_step hHeld.1 hb) hx2, pw_cell_below (below_step hHeld.1 hb) hx3, pw_cell_below (below_step hHeld.1 hb) hx4, pw_cell_below (below_step hHeld.1 hb) hx5, pw_cell_below (below_step hHeld.1 hb) hx6, pw_cell_below (below_step hHeld.1 hb) hx7, pw_cell_below (below_step hHeld.1 hb) hx8, pw_cell_below (below_step hHeld.1 hb) hm0, pw_cell_below (below_step hHeld.1 hb) hm1, pw_cell_below (below_step hHeld.1 hb) hm2, pw_cell_below (below_step hHeld.1 hb) hm3, pw_cell_below (below_step hHeld.1 hb) hm4, pw_cell_below (below_step hHeld.1 hb) hm5, pw_cell_below (below_step hHeld.1 hb) hm6, pw_cell_below (below_step hHeld.1 hb) hm7, pw_cell_below (below_step hHeld.1 hb) hm8⟩ (fun hHeld => ?_)
     clear hK K
     refine norm_ (a' := ?_) ?_ ?_
     rotate_left
     · show Act.put _ (some 41) _ = _
       simp only [Act.put, List.setIfInBounds_toArray, List.set_cons_zero, List.set_cons_succ, i64_w, i32_w]
       rfl
     refine pu 19 44 (bzz 22 1048575) (by kernel_rfl) ?_
     refine pu 20 45 (bzz 22 2097151) (by kernel_rfl) ?_
     refine pu 21 0 (bzz 22 4194303) (by kernel_rfl) ?_
     refine done_ (by kernel_rfl) ?_
     have HBz : Below w.heap.size w w4 := below_weaken HB2.out (below_size HB1.out) HB4.out
     have HBy := below_step HBz hHeld.1
     clear hHeld
     go_wp2
     go_ret
     exact ⟨rfl, HBy⟩
   · have HBE := Aside0.mk hbe
     have HAD := Aside0.mk had
     have RUN := Aside0.mk hrun
     have hl : decide (2000 < wrap64 (n + 1)) = false := decide_eq_false (by omega)
     clear hbe had hrun hlim
     go_wp2_with (first | (go_at_call 7; (with_reducible refine (controller_Tick.go s2 s1 HS.out HBE.out HAD.out).mono ?_); rintro e w3 ⟨rfl, hs3, hb3⟩; have HS3 := Aside0.mk hs3; have HB3 := Aside0.mk (HBr.out.trans hb3); clear hs3 hb3))
     go_roundg k1
     case measure => have := HK.out; omega
     case rel => exact ⟨(wrap64 (n + 1)), s2, (by first | rfl | (simp; done) | (simp [*]; done)), RUN, ⟨by have := HK.out; omega⟩, HS3, HB3⟩
end Go.Proofs.Ytmaegpblaihepaa.F
