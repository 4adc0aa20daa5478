/- New, by a contract. -/
import Derived.Test.YtmaegpblaihepaaWc
import Derived.Test.YtmaegpblaihepaaT2
import Derived.Test.YtmaegpblaihepaaT3
import Derived.Test.YtmaegpblaihepaaFx24
namespace Go.Proofs.Ytmaegpblaihepaa.F
open Go.RowKit Go.Proofs.YtmaegpblaihepaaW.PrintWords Go.Proofs.YtmaegpblaihepaaW.PrintLast Go.Proofs.YtmaegpblaihepaaW.PrintMore
attribute [local go_sem] max2_int min2_int max_two min_two max_three min_three max_four min_four
set_option linter.unusedVariables false
set_option linter.unusedSimpArgs false
set_option maxRecDepth 100000 in
set_option maxHeartbeats 8000000 in
theorem controller_New.calls (k k2 : Nat) (j : Int) (A : Option Addr) (c : Nat) (ms : List S55) (sp ac je : Int) {w : World} (hr : Kd.C k55 w A ms.length ms) (hc : ms.length ≤ c) (hl : ms.length ≤ 1000000) (h : controller_check.f k ms sp ac je = some 0) (hj : SkipTo k2 ms 0 j) : Calls Try.prog 6 #[.slice A ms.length c, .agg #[.int .i64 sp, .int .i64 ac, .int .i64 je]] w fun e w' => ∃ g, e = .returned (.tuple #[.pointer (some ⟨g, 0, none⟩), .int .i64 0]) ∧ Ctl w.heap.size w' g { ms := ms, sp := sp, ac := ac, je := je, ix := j, pt := 0, pl := [], at_ := 0, bra := false, held := false, brk := false, pcs := [], lx := (rd_T55 ms 0).f0.f0, ly := (rd_T55 ms 0).f0.f1, lz := (rd_T55 ms 0).f0.f2 } ∧ Below w.heap.size w w' := by
 have HR := Aside0.mk hr
 have HC := Aside0.mk hc
 have HL := Aside0.mk hl
 have HK := Aside0.mk h
 have HJ := Aside0.mk hj
 clear hr hc hl h hj
 have hu31 := Try.underlying31
 have hu59 := Try.underlying59
 have hu55 := Try.underlying55
 have hu30 := Try.underlying30
 have HB := Aside0.mk (Below.refl w.heap.size w)
 go_enter Try.func6, Try.ntmps6
 go_upto_region 4 with (first | ((with_reducible refine gate_dst (N := 3) rfl ?_); refine box_event ?hg (N := 3) ?hd (cs := #[.int .i64 sp, .int .i64 ac, .int .i64 je]) (t := 31) ?hr ?_; (case hd => rfl); (case hg => rfl); (case hr => first | (go_simp; done) | (go_simp; rfl)); intro q hg wq hbox hb; have BKQ := Aside0.mk hbox; have HBQ := Aside0.mk hb; clear hg hbox hb; have hq0 : wq.cell? ⟨q, 0, none⟩ = some (.int .i64 sp) := (blk_cell BKQ.out 0).trans rfl; have hq1 : wq.cell? ⟨q, 1, none⟩ = some (.int .i64 ac) := (blk_cell BKQ.out 1).trans rfl; have hq2 : wq.cell? ⟨q, 2, none⟩ = some (.int .i64 je) := (blk_cell BKQ.out 2).trans rfl) | (go_at_call 21; (with_reducible refine (controller_check.calls k A c ms sp ac je 0 _ (Kd.C_below HR.out HBQ.out) HC.out HK.out).mono ?_); rintro e w1 ⟨rfl, hb⟩; have BKQ1 := Aside0.mk (blk_below BKQ.out hb); have HB1 := Aside0.mk (below_step HBQ.out hb); clear hb hq0 hq1 hq2; have hq0 : w1.cell? ⟨q, 0, none⟩ = some (.int .i64 sp) := (blk_cell BKQ1.out 0).trans rfl; have hq1 : w1.cell? ⟨q, 1, none⟩ = some (.int .i64 ac) := (blk_cell BKQ1.out 1).trans rfl; have hq2 : w1.cell? ⟨q, 2, none⟩ = some (.int .i64 je) := (blk_cell BKQ1.out 2).trans rfl))
 refine start_ (n := 6) (S := fun w' => Below w1.heap.size w1 w' ∧ w'.cell? ⟨q, 0, none⟩ = some (.int .i64 sp) ∧ w'.cell? ⟨q, 1, none⟩ = some (.int .i64 ac) ∧ w'.cell? ⟨q, 2, none⟩ = some (.int .i64 je)) (ds := []) #[false, false, false, false, false, false] (by kernel_rfl) rfl rfl ⟨below_drew (Below.refl _ _), pw_cell_below (below_drew (Below.refl _ _)) hq0, pw_cell_below (below_drew (Below.refl _ _)) hq1, pw_cell_below (below_drew (Below.refl _ _)) hq2⟩ (fun hHeld => ?_)
 generalize World.drew _ = wd at hHeld ⊢
 refine pu 0 14 (bzz 6 1) (by kernel_rfl) ?_
 refine ta 2 16 (bzz 6 5) (by kernel_rfl) hHeld ?_
 refine one_ (i := 1) (N := some 15) (bzz 6 7) rfl rfl (by kernel_rfl) (by decide) (fun K hK => ?_)
 refine goes_ Try.func22 (by kernel_rfl) rfl #[.slice A ms.length c] (by rfl) rfl rfl (by simp only [List.map_toArray, List.map_cons, List.map_nil]; rfl) ?_
 with_reducible refine (slices_Clone.calls A c ms (Kd.C_below HR.out (below_step HB1.out hHeld.1)) HL.out).mono ?_
 rintro e3 w3 ⟨v0, rfl, hR, hb⟩
 refine ⟨_, rfl, ?_⟩
 have RN := Aside0.mk (Kd.R_lower hR (below_size (below_step HB1.out hHeld.1)))
 obtain ⟨A0, c0, ep⟩ := Kd.R_slice RN.out
 subst ep
 clear hR
 refine hK.out _ _ ⟨below_step hHeld.1 hb, pw_cell_below (below_step hHeld.1 hb) hq0, pw_cell_below (below_step hHeld.1 hb) hq1, pw_cell_below (below_step hHeld.1 hb) hq2⟩ (fun hHeld => ?_)
 clear hK K
 refine norm_ (a' := ?_) ?_ ?_
 rotate_left
 · show Act.put _ (some 15) _ = _
   simp only [Act.put, List.setIfInBounds_toArray, List.set_cons_zero, List.set_cons_succ, i64_w, i32_w]
   rfl
 refine pu 3 17 (bzz 6 15) (by kernel_rfl) ?_
 refine one_ (i := 4) (N := some 18) (bzz 6 31) rfl rfl (by kernel_rfl) (by decide) (fun K hK => ?_)
 refine box_value (cs := #[.slice A0 ms.length c0, .int .i64 sp, .int .i64 ac, .int .i64 je, .int .i64 0, .int .i64 0, .slice none 0 0, .int .i64 0, .bool false, .bool false, .bool false, .slice none 0 0, .int .i64 0, .int .i64 0, .int .i64 0]) (t := 59) (by rfl) rfl ?_ ?_
 · first | (go_simp; done) | (go_simp; rfl)
 intro g hg w4 hbox hb
 have BKg := Aside0.mk hbox
 have GE : Aside0 (w.heap.size ≤ g) := ⟨by rw [hg]; exact below_size (below_step HB1.out hHeld.1)⟩
 have RM := Aside0.mk (Kd.R_below (Kd.R_elderB RN.out g (by rw [hg]; exact Nat.le_refl _)) hb)
 clear hbox hg
 refine hK.out _ _ ⟨below_step hHeld.1 hb, pw_cell_below (below_step hHeld.1 hb) hq0, pw_cell_below (below_step hHeld.1 hb) hq1, pw_cell_below (below_step hHeld.1 hb) hq2⟩ (fun hHeld => ?_)
 clear hK K
 refine norm_ (a' := ?_) ?_ ?_
 rotate_left
 · show Act.put _ (some 18) _ = _
   simp only [Act.put, List.setIfInBounds_toArray, List.set_cons_zero, List.set_cons_succ, i64_w, i32_w]
   rfl
 refine pu 5 7 (bzz 6 63) (by kernel_rfl) ?_
 refine done_ (by kernel_rfl) ?_
 have HB4 := Aside0.mk (below_step HB1.out hHeld.1)
 clear hHeld hq0 hq1 hq2 BKQ BKQ1 HBQ HB1 RN
 have HS : Aside0 (Ctl w.heap.size w4 g (⟨ms, sp, ac, je, 0, 0, [], 0, false, false, false, [], 0, 0, 0⟩ : CS)) := ⟨GE.out, _, _, _, BKg.out, Kd.R_mono RM.out (fun _ hk => hk.2), Kd.R_nil _ _ _ _ _, Kd.R_nil _ _ _ _ _⟩
 by_cases c1 : (ms.length : Int) > 0
 · have cb : decide (0 < ms.length) = true := decide_eq_true (by omega)
   obtain ⟨ad, ea_, hx0, hx1, hx2, hx3, hx4, hx5, hx6, hx7, hx8⟩ := at_T55 (Kd.C_below HR.out HB4.out) 0 (Int.le_refl 0) c1
   subst ea_
   have ha0 : ad.add ((0 : Int).toNat * 9) = ad := by show ad.add 0 = ad; simp [Addr.add]
   rw [ha0] at hx0 hx1 hx2 hx3 hx4 hx5 hx6 hx7 hx8
   clear ha0
   have cn : (0 < ms.length) = True := eq_true (by omega)
   clear c1
   have hc12 : w4.cell? ⟨g, 12, none⟩ = some (.int .i64 0) := (blk_cell BKg.out 12).trans rfl
   have hf12 := blk_frozen BKg.out 12
   have hc13 : w4.cell? ⟨g, 13, none⟩ = some (.int .i64 0) := (blk_cell BKg.out 13).trans rfl
   have hf13 := blk_frozen BKg.out 13
   have hc14 : w4.cell? ⟨g, 14, none⟩ = some (.int .i64 0) := (blk_cell BKg.out 14).trans rfl
   have hf14 := blk_frozen BKg.out 14
   go_upto_region 7 with (fail)
   generalize hwf : World.setCell _ _ _ = wf
   have HSn : Aside0 (Ctl w.heap.size wf g (⟨ms, sp, ac, je, 0, 0, [], 0, false, false, false, [], (rd_T55 ms 0).f0.f0, (rd_T55 ms 0).f0.f1, (rd_T55 ms 0).f0.f2⟩ : CS)) := ⟨by rw [← hwf]; exact ((HS.out.set_ (s' := (⟨ms, sp, ac, je, 0, 0, [], 0, false, false, false, [], (rd_T55 ms 0).f0.f0, 0, 0⟩ : CS)) 12 _ (fun _ _ _ => rfl) rfl rfl rfl).set_ (s' := (⟨ms, sp, ac, je, 0, 0, [], 0, false, false, false, [], (rd_T55 ms 0).f0.f0, (rd_T55 ms 0).f0.f1, 0⟩ : CS)) 13 _ (fun _ _ _ => rfl) rfl rfl rfl).set_ 14 _ (fun _ _ _ => rfl) rfl rfl rfl⟩
   have HBn : Aside0 (Below w.heap.size w wf) := ⟨by rw [← hwf]; exact ((HB4.out.setCell GE.out _).setCell GE.out _).setCell GE.out _⟩
   clear hwf HS HB4 BKg RM hx0 hx1 hx2 hx3 hx4 hx5 hx6 hx7 hx8 hc12 hf12 hc13 hf13 hc14 hf14
   have SK := Aside0.mk (controller_skip.calls k2 j HSn.out (Int.le_refl 0) HJ.out)
   go_wp2_with (first | (go_at_call 23; (with_reducible refine SK.out.mono ?_); rintro e w5 ⟨rfl, hs5, hb5⟩; have HS5 := Aside0.mk hs5; have HB5 := Aside0.mk hb5; clear hs5 hb5))
   go_ret2
   exact ⟨g, rfl, HS5.out, HBn.out.trans HB5.out⟩
 · have cb : decide (0 < ms.length) = false := decide_eq_false (by omega)
   have hz : ms = [] := List.eq_nil_of_length_eq_zero (by omega)
   have HZ := Aside0.mk hz
   clear c1 hz
   have HSn := HS
   have SK := Aside0.mk (controller_skip.calls k2 j HSn.out (Int.le_refl 0) HJ.out)
   go_wp2_with (first | (go_at_call 23; (with_reducible refine SK.out.mono ?_); rintro e w5 ⟨rfl, hs5, hb5⟩; have HS5 := Aside0.mk hs5; have HB5 := Aside0.mk hb5; clear hs5 hb5))
   go_ret2
   refine ⟨g, rfl, ?_, HB4.out.trans HB5.out⟩
   have h5 := HS5.out
   rw [HZ.out] at h5 ⊢
   exact h5
end Go.Proofs.Ytmaegpblaihepaa.F
