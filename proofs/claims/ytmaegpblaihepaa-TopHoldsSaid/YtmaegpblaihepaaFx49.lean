-- The machine side of a proof, written by a program of the session out of Lean's print of the loaded functions. Lean checks it.
import Derived.Test.YtmaegpblaihepaaFx0
import Derived.Test.YtmaegpblaihepaaFa
namespace Go.Proofs.Ytmaegpblaihepaa.F
open Go.RowKit Go.Proofs.YtmaegpblaihepaaW.PrintWords Go.Proofs.YtmaegpblaihepaaW.PrintLast Go.Proofs.YtmaegpblaihepaaW.PrintMore
attribute [local go_sem] max2_int min2_int max_two min_two max_three min_three max_four min_four   -- for this text's walks alone
set_option linter.unusedVariables false
set_option linter.unusedSimpArgs false
attribute [local go_sem high] eqA42
def swarftop_long.l0 : Nat → List (S55) → List (S55) → Int → Int → Option ((List (S55)))
 | 0, _, _, _, _ => none
 | k + 1, x3, x6, x7, x8 => if x8 < x7 then (if 0 ≤ x8 then (if x8 < (x6.length : Int) then (if (!(((rd_T55 x6 x8).f0.f0) == ((rd_T55 x6 x8).f1.f0)) || (!(((rd_T55 x6 x8).f0.f1) == ((rd_T55 x6 x8).f1.f1)) || (!(((rd_T55 x6 x8).f0.f2) == ((rd_T55 x6 x8).f1.f2))))) = true then (if x3.length < 1954687338268 then (swarftop_long.l0 k (x3 ++ [(⟨(⟨(rd_T55 x6 x8).f0.f0, (rd_T55 x6 x8).f0.f1, (rd_T55 x6 x8).f0.f2⟩ : S42), (⟨(rd_T55 x6 x8).f1.f0, (rd_T55 x6 x8).f1.f1, (rd_T55 x6 x8).f1.f2⟩ : S42), (rd_T55 x6 x8).f2, (rd_T55 x6 x8).f3, (rd_T55 x6 x8).f4⟩ : S55)]) x6 x7 (wrap64 (x8 + 1))) else (none)) else (swarftop_long.l0 k x3 x6 x7 (wrap64 (x8 + 1)))) else (none)) else (none)) else (some x3)
def swarftop_long.f (k : Nat) (l0 : List (S55)) : Option ((List (S55))) := swarftop_long.l0 k ([] : List (S55)) l0 (l0.length : Int) 0
theorem swarftop_long.mono_l : ∀ k, (∀ y0 y1 y2 y3, LeO (swarftop_long.l0 k y0 y1 y2 y3) (swarftop_long.l0 (k + 1) y0 y1 y2 y3))
 | 0 => fun _ _ _ _ r h => by simp [swarftop_long.l0] at h
 | k + 1 => by
  have ih0 := swarftop_long.mono_l k
  ·intro y0 y1 y2 y3
   unfold swarftop_long.l0
   repeat' first
   | (with_reducible exact ih0 _ _ _ _)
   | (with_reducible exact LeO.refl _)
   | (with_reducible exact LeO.none _)
   | (with_reducible refine LeO.ite ?_ ?_)
   | (with_reducible refine LeO.bind ?_ (fun _ => ?_))
   | exact ih0 _ _ _ _
   | exact LeO.none _
   | refine LeO.ite ?_ ?_
   | refine LeO.bind ?_ (fun _ => ?_)
theorem swarftop_long.mono : ∀ a0 k, LeO (swarftop_long.f k a0) (swarftop_long.f (k + 1) a0) := by
 intro a0 k
 have ih0 := swarftop_long.mono_l k
 unfold swarftop_long.f
 repeat' first
   | (with_reducible exact ih0 _ _ _ _)
   | (with_reducible exact LeO.refl _)
   | (with_reducible exact LeO.none _)
   | (with_reducible refine LeO.ite ?_ ?_)
   | (with_reducible refine LeO.bind ?_ (fun _ => ?_))
   | exact ih0 _ _ _ _
   | exact LeO.none _
   | refine LeO.ite ?_ ?_
   | refine LeO.bind ?_ (fun _ => ?_)
set_option maxHeartbeats 8000000 in
set_option maxRecDepth 100000 in
theorem swarftop_long.calls (k : Nat) (A0 : Option Addr) (c0 : Nat) (l0 : List (S55)) (r : List (S55)) (w : World) (hr0 : Kd.C k55 w A0 l0.length l0) (hc0 : l0.length ≤ c0) (h : swarftop_long.f k l0 = some r) :
  Calls Try.prog 17 #[.slice A0 l0.length c0] w fun e w' => ∃ v0_ : Value, e = .returned (v0_) ∧ Kd.R k55 55 w' w.heap.size (fun _ => True) v0_ r ∧ Below w.heap.size w w' := by
 have hu55 := Try.underlying55
 have hu42 := Try.underlying42
 have HR0 := Aside0.mk hr0
 have HC0 := Aside0.mk hc0
 clear hr0 hc0
 have HB := Aside0.mk (Below.refl w.heap.size w)
 have H : (swarftop_long.l0 k ([] : List (S55)) l0 (l0.length : Int) 0) = some r := h
 clear h
 have H' := Aside0.mk H
 clear H
 go_enter Try.func17, Try.ntmps17
 go_wp2
 go_loopg [3, 8] k (fun kq v3 v8 w' => ∃ (x3_1 : List (S55)) (x8_1 : Int), v8 = .int .i64 x8_1 ∧ Aside0 (swarftop_long.l0 kq x3_1 l0 (l0.length : Int) x8_1 = some r) ∧ Aside0 (kq ≤ k) ∧ Aside0 (Kd.R k55 55 w' w.heap.size (fun _ => True) v3 x3_1) ∧ Aside0 (Below w.heap.size w w'))
 case atStart => exact ⟨(([] : List (S55))), (0), (by first | rfl | (simp; done) | (simp [*]; done)), H', ⟨Nat.le_refl _⟩, ⟨by first | exact Kd.R_nil _ _ _ _ _ | exact Kd.N_nil _ _ _ _ _ | exact Kd.V_nil _ _ _ _ _ | exact Kd.Q_nil _ _ _ _ _ | exact Kd.S_nil _ _ _ _ _⟩, ⟨by repeat (first | (with_reducible first | exact HB.out | apply below_alloc | apply pw_below_drewN | apply below_drew1) | exact HB.out)⟩⟩
 case round =>
  clear H'
  try clear c1
  obtain ⟨x3_1, x8_1, rfl, HA, HK1, HO_3, HB⟩ := hrel
  cases gk with
  | zero => exact absurd HA.out (by simp [swarftop_long.l0])
  | succ k1 =>
   have H := HA.out
   clear HA
   simp only [swarftop_long.l0] at H
   by_cases c2 : x8_1 < (l0.length : Int)
   ·rw [if_pos c2] at H
    have c2b0 : decide (x8_1 < (l0.length : Int)) = true := decide_eq_true c2
    clear c2
    by_cases c3 : 0 ≤ x8_1
    ·rw [if_pos c3] at H
     have c3b0 : decide (0 ≤ x8_1) = true := decide_eq_true c3
     clear c3
     by_cases c4 : x8_1 < (l0.length : Int)
     ·rw [if_pos c4] at H
      have c4b0 : decide (x8_1 < (l0.length : Int)) = true := decide_eq_true c4
      clear c4
      by_cases c5 : (!(((rd_T55 l0 x8_1).f0.f0) == ((rd_T55 l0 x8_1).f1.f0)) || (!(((rd_T55 l0 x8_1).f0.f1) == ((rd_T55 l0 x8_1).f1.f1)) || (!(((rd_T55 l0 x8_1).f0.f2) == ((rd_T55 l0 x8_1).f1.f2))))) = true
      ·rw [if_pos c5] at H
       have c5b0 : (!(((rd_T55 l0 x8_1).f0.f0) == ((rd_T55 l0 x8_1).f1.f0)) || (!(((rd_T55 l0 x8_1).f0.f1) == ((rd_T55 l0 x8_1).f1.f1)) || (!(((rd_T55 l0 x8_1).f0.f2) == ((rd_T55 l0 x8_1).f1.f2))))) = true := c5
       clear c5
       by_cases c6 : x3_1.length < 1954687338268
       ·rw [if_pos c6] at H
        have LMc6 := Aside0.mk c6
        clear c6
        obtain ⟨y313, hy313⟩ : ∃ y_ : List (S55), y_ = (x3_1 ++ [(⟨(⟨(rd_T55 l0 x8_1).f0.f0, (rd_T55 l0 x8_1).f0.f1, (rd_T55 l0 x8_1).f0.f2⟩ : S42), (⟨(rd_T55 l0 x8_1).f1.f0, (rd_T55 l0 x8_1).f1.f1, (rd_T55 l0 x8_1).f1.f2⟩ : S42), (rd_T55 l0 x8_1).f2, (rd_T55 l0 x8_1).f3, (rd_T55 l0 x8_1).f4⟩ : S55)]) := ⟨_, rfl⟩
        replace H : (swarftop_long.l0 k1 y313 l0 (l0.length : Int) (wrap64 (x8_1 + 1))) = some r := by first | (rw [hy313]; with_reducible exact H) | (have H2_ := (Option.bind_some _ _).symm.trans H; rw [hy313]; with_reducible exact H2_) | (have H2_ := (Option.bind_some _ _).symm.trans H; with_reducible exact H2_) | with_reducible exact H | (rw [hy313]; exact H) | exact H
        have Ny313 := Aside0.mk hy313
        clear hy313
        have H' := Aside0.mk H
        clear H
        have p311 : 0 ≤ (x8_1 : Int) := of_decide_eq_true (by first | (with_reducible assumption) | assumption)
        have q311 : x8_1 < (l0.length : Int) := of_decide_eq_true (by first | (with_reducible assumption) | assumption)
        obtain ⟨ad311, e311, hx311_0, hx311_1, hx311_2, hx311_3, hx311_4, hx311_5, hx311_6, hx311_7, hx311_8⟩ := at_T55 HR0.out x8_1 p311 q311
        cases e311
        replace hx311_0 := (HB.out.cell (World.block_lt_of_cell? w _ hx311_0)).trans hx311_0
        replace hx311_1 := (HB.out.cell (World.block_lt_of_cell? w _ hx311_1)).trans hx311_1
        replace hx311_2 := (HB.out.cell (World.block_lt_of_cell? w _ hx311_2)).trans hx311_2
        replace hx311_3 := (HB.out.cell (World.block_lt_of_cell? w _ hx311_3)).trans hx311_3
        replace hx311_4 := (HB.out.cell (World.block_lt_of_cell? w _ hx311_4)).trans hx311_4
        replace hx311_5 := (HB.out.cell (World.block_lt_of_cell? w _ hx311_5)).trans hx311_5
        replace hx311_6 := (HB.out.cell (World.block_lt_of_cell? w _ hx311_6)).trans hx311_6
        replace hx311_7 := (HB.out.cell (World.block_lt_of_cell? w _ hx311_7)).trans hx311_7
        replace hx311_8 := (HB.out.cell (World.block_lt_of_cell? w _ hx311_8)).trans hx311_8
        replace p311 := eq_true p311
        replace q311 := eq_true q311
        go_wp2_with (first | ((with_reducible refine gate_dst (N := 5) rfl ?_); refine box_event ?hg (N := 5) ?hd (cs := #[.int .i64 0, .int .i64 0, .int .i64 0, .int .i64 0, .int .i64 0, .int .i64 0, .int .i64 0, .int .i64 0, .int .i64 0]) (t := 55) ?hr ?_; (case hd => rfl); (case hg => rfl); (case hr => first | (go_simp; done) | (go_simp; rfl)); intro gb312 hg w7 hbox hb; have n0_ := Aside0.mk (Kd.R_below (Kd.R_elderB (by (with_reducible repeat (first | apply Kd.R_alloc | apply Kd.R_drewN | apply Kd.R_drew)); exact HO_3.out) gb312 (Nat.le_of_eq hg.symm)) hb); have n1_ := Aside0.mk (below_step (by repeat (first | (with_reducible first | exact HB.out | apply below_alloc | apply pw_below_drewN | apply below_drew1) | exact HB.out)) hb); have n2_ := Aside0.mk (hbox); have n3_ := Aside0.mk ((by rw [hg]; exact (below_size (by repeat (first | (with_reducible first | exact HB.out | apply below_alloc | apply pw_below_drewN | apply below_drew1) | exact HB.out))) : w.heap.size ≤ gb312)); have n4_ := Aside0.mk ((by rw [hg]; exact (below_size (by repeat (first | (with_reducible first | exact HB.out | apply below_alloc | apply pw_below_drewN | apply below_drew1) | exact HB.out))) : w.heap.size ≤ gb312)); clear HO_3; clear HB; have HO_3 := n0_; have HB := n1_; have BK312 := n2_; have GW312 := n3_; have GE312 := n4_; clear n0_ n1_ n2_ n3_ n4_; clear hb hbox hg; have hcz8_0 : w7.cell? ⟨gb312, 0, none⟩ = some (.int .i64 0) := (blk_cell BK312.out 0).trans rfl; have hcz8_1 : w7.cell? ⟨gb312, 1, none⟩ = some (.int .i64 0) := (blk_cell BK312.out 1).trans rfl; have hcz8_2 : w7.cell? ⟨gb312, 2, none⟩ = some (.int .i64 0) := (blk_cell BK312.out 2).trans rfl; have hcz8_3 : w7.cell? ⟨gb312, 3, none⟩ = some (.int .i64 0) := (blk_cell BK312.out 3).trans rfl; have hcz8_4 : w7.cell? ⟨gb312, 4, none⟩ = some (.int .i64 0) := (blk_cell BK312.out 4).trans rfl; have hcz8_5 : w7.cell? ⟨gb312, 5, none⟩ = some (.int .i64 0) := (blk_cell BK312.out 5).trans rfl; have hcz8_6 : w7.cell? ⟨gb312, 6, none⟩ = some (.int .i64 0) := (blk_cell BK312.out 6).trans rfl; have hcz8_7 : w7.cell? ⟨gb312, 7, none⟩ = some (.int .i64 0) := (blk_cell BK312.out 7).trans rfl; have hcz8_8 : w7.cell? ⟨gb312, 8, none⟩ = some (.int .i64 0) := (blk_cell BK312.out 8).trans rfl; have hfz8_0 := blk_frozen BK312.out 0; have hfz8_1 := blk_frozen BK312.out 1; have hfz8_2 := blk_frozen BK312.out 2; have hfz8_3 := blk_frozen BK312.out 3; have hfz8_4 := blk_frozen BK312.out 4; have hfz8_5 := blk_frozen BK312.out 5; have hfz8_6 := blk_frozen BK312.out 6; have hfz8_7 := blk_frozen BK312.out 7; have hfz8_8 := blk_frozen BK312.out 8) | ((with_reducible refine gate_builtin (b := .append) (xs := #[.tmp 17, .tmp 19]) rfl ?_); at_builtin; refine Kd.R_append k55 (w0 := w) w.heap.size rfl (.tmp 17) (.tmp 19) 30 55 (.agg #[(.int .i64 0), (.int .i64 0), (.int .i64 0), (.int .i64 0), (.int .i64 0), (.int .i64 0), (.int .i64 0), (.int .i64 0), (.int .i64 0)]) 72 rfl Try.underlying30 info55 rfl (by decide) (by omega) u3 x3_1 (⟨(⟨(rd_T55 l0 x8_1).f0.f0, (rd_T55 l0 x8_1).f0.f1, (rd_T55 l0 x8_1).f0.f2⟩ : S42), (⟨(rd_T55 l0 x8_1).f1.f0, (rd_T55 l0 x8_1).f1.f1, (rd_T55 l0 x8_1).f1.f2⟩ : S42), (rd_T55 l0 x8_1).f2, (rd_T55 l0 x8_1).f3, (rd_T55 l0 x8_1).f4⟩ : S55) [.int .i64 ((rd_T55 l0 x8_1).f0.f0), .int .i64 ((rd_T55 l0 x8_1).f0.f1), .int .i64 ((rd_T55 l0 x8_1).f0.f2), .int .i64 ((rd_T55 l0 x8_1).f1.f0), .int .i64 ((rd_T55 l0 x8_1).f1.f1), .int .i64 ((rd_T55 l0 x8_1).f1.f2), .int .i64 ((rd_T55 l0 x8_1).f2), .int .i64 ((rd_T55 l0 x8_1).f3), .int .i64 ((rd_T55 l0 x8_1).f4)] (fun k_ => k_ ≠ gb312) (fun _ => False) rfl (by first | (go_simp; done) | (go_simp; rfl)) ?aP (fun _ hk => hk.elim) ?aF ?aO ?aB ?aS ?aL ?_; (case aP => exact k55_mkM _ _ _ (⟨(⟨(rd_T55 l0 x8_1).f0.f0, (rd_T55 l0 x8_1).f0.f1, (rd_T55 l0 x8_1).f0.f2⟩ : S42), (⟨(rd_T55 l0 x8_1).f1.f0, (rd_T55 l0 x8_1).f1.f1, (rd_T55 l0 x8_1).f1.f2⟩ : S42), (rd_T55 l0 x8_1).f2, (rd_T55 l0 x8_1).f3, (rd_T55 l0 x8_1).f4⟩ : S55)); (case aB => exact (by repeat (first | (with_reducible first | exact HB.out | apply below_alloc | apply pw_below_drewN | apply below_drew1 | refine below_set ?_ GE312.out) | exact HB.out))); (case aF => exact (fun k_ hk => Kd.freshB (g := gb312) (o := .cells #[.int .i64 ((rd_T55 l0 x8_1).f0.f0), .int .i64 ((rd_T55 l0 x8_1).f0.f1), .int .i64 ((rd_T55 l0 x8_1).f0.f2), .int .i64 ((rd_T55 l0 x8_1).f1.f0), .int .i64 ((rd_T55 l0 x8_1).f1.f1), .int .i64 ((rd_T55 l0 x8_1).f1.f2), .int .i64 ((rd_T55 l0 x8_1).f2), .int .i64 ((rd_T55 l0 x8_1).f3), .int .i64 ((rd_T55 l0 x8_1).f4)] 55 (0, 0)) (by (with_reducible repeat (first | refine blk_drewN ?_ _ | refine blk_drew ?_ | refine blk_alloc ?_ _)); refine blk_put (cs := #[.int .i64 ((rd_T55 l0 x8_1).f0.f0), .int .i64 ((rd_T55 l0 x8_1).f0.f1), .int .i64 ((rd_T55 l0 x8_1).f0.f2), .int .i64 ((rd_T55 l0 x8_1).f1.f0), .int .i64 ((rd_T55 l0 x8_1).f1.f1), .int .i64 ((rd_T55 l0 x8_1).f1.f2), .int .i64 ((rd_T55 l0 x8_1).f2), .int .i64 ((rd_T55 l0 x8_1).f3), .int .i64 0]) ?_ 8 _ rfl; (with_reducible repeat (first | refine blk_drewN ?_ _ | refine blk_drew ?_ | refine blk_alloc ?_ _)); refine blk_put (cs := #[.int .i64 ((rd_T55 l0 x8_1).f0.f0), .int .i64 ((rd_T55 l0 x8_1).f0.f1), .int .i64 ((rd_T55 l0 x8_1).f0.f2), .int .i64 ((rd_T55 l0 x8_1).f1.f0), .int .i64 ((rd_T55 l0 x8_1).f1.f1), .int .i64 ((rd_T55 l0 x8_1).f1.f2), .int .i64 ((rd_T55 l0 x8_1).f2), .int .i64 0, .int .i64 0]) ?_ 7 _ rfl; (with_reducible repeat (first | refine blk_drewN ?_ _ | refine blk_drew ?_ | refine blk_alloc ?_ _)); refine blk_put (cs := #[.int .i64 ((rd_T55 l0 x8_1).f0.f0), .int .i64 ((rd_T55 l0 x8_1).f0.f1), .int .i64 ((rd_T55 l0 x8_1).f0.f2), .int .i64 ((rd_T55 l0 x8_1).f1.f0), .int .i64 ((rd_T55 l0 x8_1).f1.f1), .int .i64 ((rd_T55 l0 x8_1).f1.f2), .int .i64 0, .int .i64 0, .int .i64 0]) ?_ 6 _ rfl; (with_reducible repeat (first | refine blk_drewN ?_ _ | refine blk_drew ?_ | refine blk_alloc ?_ _)); refine blk_put (cs := #[.int .i64 ((rd_T55 l0 x8_1).f0.f0), .int .i64 ((rd_T55 l0 x8_1).f0.f1), .int .i64 ((rd_T55 l0 x8_1).f0.f2), .int .i64 ((rd_T55 l0 x8_1).f1.f0), .int .i64 ((rd_T55 l0 x8_1).f1.f1), .int .i64 0, .int .i64 0, .int .i64 0, .int .i64 0]) ?_ 5 _ rfl; (with_reducible repeat (first | refine blk_drewN ?_ _ | refine blk_drew ?_ | refine blk_alloc ?_ _)); refine blk_put (cs := #[.int .i64 ((rd_T55 l0 x8_1).f0.f0), .int .i64 ((rd_T55 l0 x8_1).f0.f1), .int .i64 ((rd_T55 l0 x8_1).f0.f2), .int .i64 ((rd_T55 l0 x8_1).f1.f0), .int .i64 0, .int .i64 0, .int .i64 0, .int .i64 0, .int .i64 0]) ?_ 4 _ rfl; (with_reducible repeat (first | refine blk_drewN ?_ _ | refine blk_drew ?_ | refine blk_alloc ?_ _)); refine blk_put (cs := #[.int .i64 ((rd_T55 l0 x8_1).f0.f0), .int .i64 ((rd_T55 l0 x8_1).f0.f1), .int .i64 ((rd_T55 l0 x8_1).f0.f2), .int .i64 0, .int .i64 0, .int .i64 0, .int .i64 0, .int .i64 0, .int .i64 0]) ?_ 3 _ rfl; (with_reducible repeat (first | refine blk_drewN ?_ _ | refine blk_drew ?_ | refine blk_alloc ?_ _)); refine blk_put (cs := #[.int .i64 ((rd_T55 l0 x8_1).f0.f0), .int .i64 ((rd_T55 l0 x8_1).f0.f1), .int .i64 0, .int .i64 0, .int .i64 0, .int .i64 0, .int .i64 0, .int .i64 0, .int .i64 0]) ?_ 2 _ rfl; (with_reducible repeat (first | refine blk_drewN ?_ _ | refine blk_drew ?_ | refine blk_alloc ?_ _)); refine blk_put (cs := #[.int .i64 ((rd_T55 l0 x8_1).f0.f0), .int .i64 0, .int .i64 0, .int .i64 0, .int .i64 0, .int .i64 0, .int .i64 0, .int .i64 0, .int .i64 0]) ?_ 1 _ rfl; (with_reducible repeat (first | refine blk_drewN ?_ _ | refine blk_drew ?_ | refine blk_alloc ?_ _)); refine blk_put (cs := #[.int .i64 0, .int .i64 0, .int .i64 0, .int .i64 0, .int .i64 0, .int .i64 0, .int .i64 0, .int .i64 0, .int .i64 0]) ?_ 0 _ rfl; (with_reducible repeat (first | refine blk_drewN ?_ _ | refine blk_drew ?_ | refine blk_alloc ?_ _)); exact BK312.out) k_ hk)); (case aO => exact (by (with_reducible repeat (first | apply Kd.R_alloc | apply Kd.R_drewN | apply Kd.R_drew)); exact Kd.R_mono (Kd.R_far (p := ⟨gb312, 8, none⟩) (Kd.R_far (p := ⟨gb312, 7, none⟩) (Kd.R_far (p := ⟨gb312, 6, none⟩) (Kd.R_far (p := ⟨gb312, 5, none⟩) (Kd.R_far (p := ⟨gb312, 4, none⟩) (Kd.R_far (p := ⟨gb312, 3, none⟩) (Kd.R_far (p := ⟨gb312, 2, none⟩) (Kd.R_far (p := ⟨gb312, 1, none⟩) (Kd.R_far (p := ⟨gb312, 0, none⟩) (Kd.R_mono HO_3.out (fun k_ hk => (⟨hk, hk.2⟩ : _ ∧ k_ ≠ gb312))) (fun _ hk => hk.2) (.int .i64 ((rd_T55 l0 x8_1).f0.f0))) (fun _ hk => hk.2) (.int .i64 ((rd_T55 l0 x8_1).f0.f1))) (fun _ hk => hk.2) (.int .i64 ((rd_T55 l0 x8_1).f0.f2))) (fun _ hk => hk.2) (.int .i64 ((rd_T55 l0 x8_1).f1.f0))) (fun _ hk => hk.2) (.int .i64 ((rd_T55 l0 x8_1).f1.f1))) (fun _ hk => hk.2) (.int .i64 ((rd_T55 l0 x8_1).f1.f2))) (fun _ hk => hk.2) (.int .i64 ((rd_T55 l0 x8_1).f2))) (fun _ hk => hk.2) (.int .i64 ((rd_T55 l0 x8_1).f3))) (fun _ hk => hk.2) (.int .i64 ((rd_T55 l0 x8_1).f4))) (fun _ hk => hk.1.2))); (case aS => exact (below_size (by repeat (first | (with_reducible first | exact HB.out | apply below_alloc | apply pw_below_drewN | apply below_drew1 | refine below_set ?_ GE312.out) | exact HB.out)))); (case aL => have := LMc6.out; omega); intro v314 w9 ho hb hg hat; rw [← Ny313.out] at ho; have n0_ := Aside0.mk (blk_grown (g := gb312) (o := .cells #[.int .i64 ((rd_T55 l0 x8_1).f0.f0), .int .i64 ((rd_T55 l0 x8_1).f0.f1), .int .i64 ((rd_T55 l0 x8_1).f0.f2), .int .i64 ((rd_T55 l0 x8_1).f1.f0), .int .i64 ((rd_T55 l0 x8_1).f1.f1), .int .i64 ((rd_T55 l0 x8_1).f1.f2), .int .i64 ((rd_T55 l0 x8_1).f2), .int .i64 ((rd_T55 l0 x8_1).f3), .int .i64 ((rd_T55 l0 x8_1).f4)] 55 (0, 0)) (by (with_reducible repeat (first | refine blk_drewN ?_ _ | refine blk_drew ?_ | refine blk_alloc ?_ _)); refine blk_put (cs := #[.int .i64 ((rd_T55 l0 x8_1).f0.f0), .int .i64 ((rd_T55 l0 x8_1).f0.f1), .int .i64 ((rd_T55 l0 x8_1).f0.f2), .int .i64 ((rd_T55 l0 x8_1).f1.f0), .int .i64 ((rd_T55 l0 x8_1).f1.f1), .int .i64 ((rd_T55 l0 x8_1).f1.f2), .int .i64 ((rd_T55 l0 x8_1).f2), .int .i64 ((rd_T55 l0 x8_1).f3), .int .i64 0]) ?_ 8 _ rfl; (with_reducible repeat (first | refine blk_drewN ?_ _ | refine blk_drew ?_ | refine blk_alloc ?_ _)); refine blk_put (cs := #[.int .i64 ((rd_T55 l0 x8_1).f0.f0), .int .i64 ((rd_T55 l0 x8_1).f0.f1), .int .i64 ((rd_T55 l0 x8_1).f0.f2), .int .i64 ((rd_T55 l0 x8_1).f1.f0), .int .i64 ((rd_T55 l0 x8_1).f1.f1), .int .i64 ((rd_T55 l0 x8_1).f1.f2), .int .i64 ((rd_T55 l0 x8_1).f2), .int .i64 0, .int .i64 0]) ?_ 7 _ rfl; (with_reducible repeat (first | refine blk_drewN ?_ _ | refine blk_drew ?_ | refine blk_alloc ?_ _)); refine blk_put (cs := #[.int .i64 ((rd_T55 l0 x8_1).f0.f0), .int .i64 ((rd_T55 l0 x8_1).f0.f1), .int .i64 ((rd_T55 l0 x8_1).f0.f2), .int .i64 ((rd_T55 l0 x8_1).f1.f0), .int .i64 ((rd_T55 l0 x8_1).f1.f1), .int .i64 ((rd_T55 l0 x8_1).f1.f2), .int .i64 0, .int .i64 0, .int .i64 0]) ?_ 6 _ rfl; (with_reducible repeat (first | refine blk_drewN ?_ _ | refine blk_drew ?_ | refine blk_alloc ?_ _)); refine blk_put (cs := #[.int .i64 ((rd_T55 l0 x8_1).f0.f0), .int .i64 ((rd_T55 l0 x8_1).f0.f1), .int .i64 ((rd_T55 l0 x8_1).f0.f2), .int .i64 ((rd_T55 l0 x8_1).f1.f0), .int .i64 ((rd_T55 l0 x8_1).f1.f1), .int .i64 0, .int .i64 0, .int .i64 0, .int .i64 0]) ?_ 5 _ rfl; (with_reducible repeat (first | refine blk_drewN ?_ _ | refine blk_drew ?_ | refine blk_alloc ?_ _)); refine blk_put (cs := #[.int .i64 ((rd_T55 l0 x8_1).f0.f0), .int .i64 ((rd_T55 l0 x8_1).f0.f1), .int .i64 ((rd_T55 l0 x8_1).f0.f2), .int .i64 ((rd_T55 l0 x8_1).f1.f0), .int .i64 0, .int .i64 0, .int .i64 0, .int .i64 0, .int .i64 0]) ?_ 4 _ rfl; (with_reducible repeat (first | refine blk_drewN ?_ _ | refine blk_drew ?_ | refine blk_alloc ?_ _)); refine blk_put (cs := #[.int .i64 ((rd_T55 l0 x8_1).f0.f0), .int .i64 ((rd_T55 l0 x8_1).f0.f1), .int .i64 ((rd_T55 l0 x8_1).f0.f2), .int .i64 0, .int .i64 0, .int .i64 0, .int .i64 0, .int .i64 0, .int .i64 0]) ?_ 3 _ rfl; (with_reducible repeat (first | refine blk_drewN ?_ _ | refine blk_drew ?_ | refine blk_alloc ?_ _)); refine blk_put (cs := #[.int .i64 ((rd_T55 l0 x8_1).f0.f0), .int .i64 ((rd_T55 l0 x8_1).f0.f1), .int .i64 0, .int .i64 0, .int .i64 0, .int .i64 0, .int .i64 0, .int .i64 0, .int .i64 0]) ?_ 2 _ rfl; (with_reducible repeat (first | refine blk_drewN ?_ _ | refine blk_drew ?_ | refine blk_alloc ?_ _)); refine blk_put (cs := #[.int .i64 ((rd_T55 l0 x8_1).f0.f0), .int .i64 0, .int .i64 0, .int .i64 0, .int .i64 0, .int .i64 0, .int .i64 0, .int .i64 0, .int .i64 0]) ?_ 1 _ rfl; (with_reducible repeat (first | refine blk_drewN ?_ _ | refine blk_drew ?_ | refine blk_alloc ?_ _)); refine blk_put (cs := #[.int .i64 0, .int .i64 0, .int .i64 0, .int .i64 0, .int .i64 0, .int .i64 0, .int .i64 0, .int .i64 0, .int .i64 0]) ?_ 0 _ rfl; (with_reducible repeat (first | refine blk_drewN ?_ _ | refine blk_drew ?_ | refine blk_alloc ?_ _)); exact BK312.out) hg (Kd.R_away HO_3.out (fun _ hk => hk.2))); have n1_ := Aside0.mk (hb); have n2_ := Aside0.mk (ho); clear BK312; clear HB; clear HO_3; have BK312 := n0_; have HB := n1_; have HO315 := n2_; clear n0_ n1_ n2_; clear ho hb hg hat))
        go_roundg k1
        case measure => have := HK1.out; omega
        case rel => exact ⟨(y313), (wrap64 (x8_1 + 1)), (by first | rfl | (simp; done) | (simp [*]; done)), H', ⟨by have := HK1.out; omega⟩, ⟨by (with_reducible repeat (first | apply Kd.R_alloc | apply Kd.R_drewN | apply Kd.R_drew)); exact Kd.R_mono HO315.out (fun _ hk => trivial)⟩, ⟨by repeat (first | (with_reducible first | exact HB.out | apply below_alloc | apply pw_below_drewN | apply below_drew1 | refine below_set ?_ GE312.out) | exact HB.out)⟩⟩
       ·rw [if_neg c6] at H
        exact absurd H (by simp)
      ·rw [if_neg c5] at H
       have c5b0 : (!(((rd_T55 l0 x8_1).f0.f0) == ((rd_T55 l0 x8_1).f1.f0)) || (!(((rd_T55 l0 x8_1).f0.f1) == ((rd_T55 l0 x8_1).f1.f1)) || (!(((rd_T55 l0 x8_1).f0.f2) == ((rd_T55 l0 x8_1).f1.f2))))) = false := by simpa using c5
       clear c5
       have H' := Aside0.mk H
       clear H
       have p311 : 0 ≤ (x8_1 : Int) := of_decide_eq_true (by first | (with_reducible assumption) | assumption)
       have q311 : x8_1 < (l0.length : Int) := of_decide_eq_true (by first | (with_reducible assumption) | assumption)
       obtain ⟨ad311, e311, hx311_0, hx311_1, hx311_2, hx311_3, hx311_4, hx311_5, hx311_6, hx311_7, hx311_8⟩ := at_T55 HR0.out x8_1 p311 q311
       cases e311
       replace hx311_0 := (HB.out.cell (World.block_lt_of_cell? w _ hx311_0)).trans hx311_0
       replace hx311_1 := (HB.out.cell (World.block_lt_of_cell? w _ hx311_1)).trans hx311_1
       replace hx311_2 := (HB.out.cell (World.block_lt_of_cell? w _ hx311_2)).trans hx311_2
       replace hx311_3 := (HB.out.cell (World.block_lt_of_cell? w _ hx311_3)).trans hx311_3
       replace hx311_4 := (HB.out.cell (World.block_lt_of_cell? w _ hx311_4)).trans hx311_4
       replace hx311_5 := (HB.out.cell (World.block_lt_of_cell? w _ hx311_5)).trans hx311_5
       replace hx311_6 := (HB.out.cell (World.block_lt_of_cell? w _ hx311_6)).trans hx311_6
       replace hx311_7 := (HB.out.cell (World.block_lt_of_cell? w _ hx311_7)).trans hx311_7
       replace hx311_8 := (HB.out.cell (World.block_lt_of_cell? w _ hx311_8)).trans hx311_8
       replace p311 := eq_true p311
       replace q311 := eq_true q311
       go_wp2_with (first | ((with_reducible refine gate_dst (N := 5) rfl ?_); refine box_event ?hg (N := 5) ?hd (cs := #[.int .i64 0, .int .i64 0, .int .i64 0, .int .i64 0, .int .i64 0, .int .i64 0, .int .i64 0, .int .i64 0, .int .i64 0]) (t := 55) ?hr ?_; (case hd => rfl); (case hg => rfl); (case hr => first | (go_simp; done) | (go_simp; rfl)); intro gb312 hg w10 hbox hb; have n0_ := Aside0.mk (Kd.R_below (Kd.R_elderB (by (with_reducible repeat (first | apply Kd.R_alloc | apply Kd.R_drewN | apply Kd.R_drew)); exact HO_3.out) gb312 (Nat.le_of_eq hg.symm)) hb); have n1_ := Aside0.mk (below_step (by repeat (first | (with_reducible first | exact HB.out | apply below_alloc | apply pw_below_drewN | apply below_drew1) | exact HB.out)) hb); have n2_ := Aside0.mk (hbox); have n3_ := Aside0.mk ((by rw [hg]; exact (below_size (by repeat (first | (with_reducible first | exact HB.out | apply below_alloc | apply pw_below_drewN | apply below_drew1) | exact HB.out))) : w.heap.size ≤ gb312)); have n4_ := Aside0.mk ((by rw [hg]; exact (below_size (by repeat (first | (with_reducible first | exact HB.out | apply below_alloc | apply pw_below_drewN | apply below_drew1) | exact HB.out))) : w.heap.size ≤ gb312)); clear HO_3; clear HB; have HO_3 := n0_; have HB := n1_; have BK312 := n2_; have GW312 := n3_; have GE312 := n4_; clear n0_ n1_ n2_ n3_ n4_; clear hb hbox hg; have hcz11_0 : w10.cell? ⟨gb312, 0, none⟩ = some (.int .i64 0) := (blk_cell BK312.out 0).trans rfl; have hcz11_1 : w10.cell? ⟨gb312, 1, none⟩ = some (.int .i64 0) := (blk_cell BK312.out 1).trans rfl; have hcz11_2 : w10.cell? ⟨gb312, 2, none⟩ = some (.int .i64 0) := (blk_cell BK312.out 2).trans rfl; have hcz11_3 : w10.cell? ⟨gb312, 3, none⟩ = some (.int .i64 0) := (blk_cell BK312.out 3).trans rfl; have hcz11_4 : w10.cell? ⟨gb312, 4, none⟩ = some (.int .i64 0) := (blk_cell BK312.out 4).trans rfl; have hcz11_5 : w10.cell? ⟨gb312, 5, none⟩ = some (.int .i64 0) := (blk_cell BK312.out 5).trans rfl; have hcz11_6 : w10.cell? ⟨gb312, 6, none⟩ = some (.int .i64 0) := (blk_cell BK312.out 6).trans rfl; have hcz11_7 : w10.cell? ⟨gb312, 7, none⟩ = some (.int .i64 0) := (blk_cell BK312.out 7).trans rfl; have hcz11_8 : w10.cell? ⟨gb312, 8, none⟩ = some (.int .i64 0) := (blk_cell BK312.out 8).trans rfl; have hfz11_0 := blk_frozen BK312.out 0; have hfz11_1 := blk_frozen BK312.out 1; have hfz11_2 := blk_frozen BK312.out 2; have hfz11_3 := blk_frozen BK312.out 3; have hfz11_4 := blk_frozen BK312.out 4; have hfz11_5 := blk_frozen BK312.out 5; have hfz11_6 := blk_frozen BK312.out 6; have hfz11_7 := blk_frozen BK312.out 7; have hfz11_8 := blk_frozen BK312.out 8))
       go_roundg k1
       case measure => have := HK1.out; omega
       case rel => exact ⟨(x3_1), (wrap64 (x8_1 + 1)), (by first | rfl | (simp; done) | (simp [*]; done)), H', ⟨by have := HK1.out; omega⟩, ⟨by (with_reducible repeat (first | apply Kd.R_alloc | apply Kd.R_drewN | apply Kd.R_drew)); exact Kd.R_mono (Kd.R_far (p := ⟨gb312, 8, none⟩) (Kd.R_far (p := ⟨gb312, 7, none⟩) (Kd.R_far (p := ⟨gb312, 6, none⟩) (Kd.R_far (p := ⟨gb312, 5, none⟩) (Kd.R_far (p := ⟨gb312, 4, none⟩) (Kd.R_far (p := ⟨gb312, 3, none⟩) (Kd.R_far (p := ⟨gb312, 2, none⟩) (Kd.R_far (p := ⟨gb312, 1, none⟩) (Kd.R_far (p := ⟨gb312, 0, none⟩) (Kd.R_mono HO_3.out (fun k_ hk => (⟨hk, hk.2⟩ : _ ∧ k_ ≠ gb312))) (fun _ hk => hk.2) (.int .i64 ((rd_T55 l0 x8_1).f0.f0))) (fun _ hk => hk.2) (.int .i64 ((rd_T55 l0 x8_1).f0.f1))) (fun _ hk => hk.2) (.int .i64 ((rd_T55 l0 x8_1).f0.f2))) (fun _ hk => hk.2) (.int .i64 ((rd_T55 l0 x8_1).f1.f0))) (fun _ hk => hk.2) (.int .i64 ((rd_T55 l0 x8_1).f1.f1))) (fun _ hk => hk.2) (.int .i64 ((rd_T55 l0 x8_1).f1.f2))) (fun _ hk => hk.2) (.int .i64 ((rd_T55 l0 x8_1).f2))) (fun _ hk => hk.2) (.int .i64 ((rd_T55 l0 x8_1).f3))) (fun _ hk => hk.2) (.int .i64 ((rd_T55 l0 x8_1).f4))) (fun _ hk => trivial)⟩, ⟨by repeat (first | (with_reducible first | exact HB.out | apply below_alloc | apply pw_below_drewN | apply below_drew1 | refine below_set ?_ GE312.out) | exact HB.out)⟩⟩
     ·rw [if_neg c4] at H
      exact absurd H (by simp)
    ·rw [if_neg c3] at H
     exact absurd H (by simp)
   ·rw [if_neg c2] at H
    have c2b0 : decide (x8_1 < (l0.length : Int)) = false := decide_eq_false c2
    clear c2
    obtain rfl := Option.some.inj H
    go_wp2
    go_ret
    exact ⟨_, by first | rfl | (simp [errW_none, errW_some] <;> rfl) | (simp [*, errW_none, errW_some] <;> rfl), by (with_reducible repeat (first | apply Kd.R_alloc | apply Kd.R_drewN | apply Kd.R_drew)); exact HO_3.out, by repeat (first | (with_reducible first | exact HB.out | apply below_alloc | apply pw_below_drewN | apply below_drew1) | exact HB.out)⟩
end Go.Proofs.Ytmaegpblaihepaa.F
