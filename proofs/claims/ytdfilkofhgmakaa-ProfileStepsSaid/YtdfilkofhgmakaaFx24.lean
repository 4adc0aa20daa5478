-- The machine side of a proof, written by a program of the session out of Lean's print of the loaded functions. Lean checks it.
import Derived.Test.YtdfilkofhgmakaaFx0
import Derived.Test.YtdfilkofhgmakaaFx20
import Derived.Test.YtdfilkofhgmakaaFx21
namespace Go.Proofs.Ytdfilkofhgmakaa.F
open Go.RowKit Go.Proofs.YtdfilkofhgmakaaW.PrintWords Go.Proofs.YtdfilkofhgmakaaW.PrintLast Go.Proofs.YtdfilkofhgmakaaW.PrintMore
attribute [local go_sem] max2_int min2_int max_two min_two max_three min_three max_four min_four   -- for this text's walks alone
set_option linter.unusedVariables false
set_option linter.unusedSimpArgs false
mutual
def swarfref49_Smooth.l0 : Nat → List Int → Int → Int → Int → Int → Int → Int → Option (Bool)
 | 0, _, _, _, _, _, _, _ => none
 | k + 1, x0, x5, x6, x7, x201000, x201001, x201002 => if x7 < (wrap64 ((x0.length : Int) + 2)) then (if x7 < (x0.length : Int) then (if 0 ≤ x7 then (swarfref49_Smooth.j1 k x0 x5 x6 x7 (rd x0 x7) x201000 x201001 x201002) else (none)) else (swarfref49_Smooth.j1 k x0 x5 x6 x7 0 x201000 x201001 x201002)) else (some true)
def swarfref49_Smooth.j1 : Nat → List Int → Int → Int → Int → Int → Int → Int → Int → Option (Bool)
 | 0, _, _, _, _, _, _, _, _ => none
 | k + 1, x0, x5, x6, x7, x8, x201000, x201001, x201002 => (swarfref49_within.f x8 0 x201000).bind fun t203 => (if t203 = true then ((swarfref49_within.f (wrap64 (x8 - x5)) (wrap64 (-x201001)) x201001).bind fun t204 => (if t204 = true then ((swarfref49_within.f (wrap64 ((wrap64 (x8 - x5)) - x6)) (wrap64 (-x201002)) x201002).bind fun t205 => (if t205 = true then (swarfref49_Smooth.l0 k x0 x8 (wrap64 (x8 - x5)) (wrap64 (x7 + 1)) x201000 x201001 x201002) else (some false))) else (some false))) else (some false))
end
def swarfref49_Smooth.f (k : Nat) (l0 : List Int) (a1_0 : Int) (a1_1 : Int) (a1_2 : Int) : Option (Bool) := (swarfref49_Valid.f a1_0 a1_1 a1_2).bind fun t201 => (if t201 = 0 then (swarfref49_Smooth.l0 k l0 0 0 0 a1_0 a1_1 a1_2) else (some false))
theorem swarfref49_Smooth.mono_l : ∀ k, (∀ y0 y1 y2 y3 y4 y5 y6, LeO (swarfref49_Smooth.l0 k y0 y1 y2 y3 y4 y5 y6) (swarfref49_Smooth.l0 (k + 1) y0 y1 y2 y3 y4 y5 y6)) ∧ (∀ y0 y1 y2 y3 y4 y5 y6 y7, LeO (swarfref49_Smooth.j1 k y0 y1 y2 y3 y4 y5 y6 y7) (swarfref49_Smooth.j1 (k + 1) y0 y1 y2 y3 y4 y5 y6 y7))
 | 0 => ⟨fun _ _ _ _ _ _ _ r h => by simp [swarfref49_Smooth.l0] at h, fun _ _ _ _ _ _ _ _ r h => by simp [swarfref49_Smooth.j1] at h⟩
 | k + 1 => by
  obtain ⟨ih0, ih1⟩ := swarfref49_Smooth.mono_l k
  refine ⟨?_, ?_⟩
  ·intro y0 y1 y2 y3 y4 y5 y6
   unfold swarfref49_Smooth.l0
   repeat' first
   | (with_reducible exact ih0 _ _ _ _ _ _ _)
   | (with_reducible exact ih1 _ _ _ _ _ _ _ _)
   | (with_reducible exact LeO.refl _)
   | (with_reducible exact LeO.none _)
   | (with_reducible refine LeO.ite ?_ ?_)
   | (with_reducible refine LeO.bind ?_ (fun _ => ?_))
   | exact ih0 _ _ _ _ _ _ _
   | exact ih1 _ _ _ _ _ _ _ _
   | exact LeO.none _
   | refine LeO.ite ?_ ?_
   | refine LeO.bind ?_ (fun _ => ?_)
  ·intro y0 y1 y2 y3 y4 y5 y6 y7
   unfold swarfref49_Smooth.j1
   repeat' first
   | (with_reducible exact ih0 _ _ _ _ _ _ _)
   | (with_reducible exact ih1 _ _ _ _ _ _ _ _)
   | (with_reducible exact LeO.refl _)
   | (with_reducible exact LeO.none _)
   | (with_reducible refine LeO.ite ?_ ?_)
   | (with_reducible refine LeO.bind ?_ (fun _ => ?_))
   | exact ih0 _ _ _ _ _ _ _
   | exact ih1 _ _ _ _ _ _ _ _
   | exact LeO.none _
   | refine LeO.ite ?_ ?_
   | refine LeO.bind ?_ (fun _ => ?_)
theorem swarfref49_Smooth.mono : ∀ a0 a1 a2 a3 k, LeO (swarfref49_Smooth.f k a0 a1 a2 a3) (swarfref49_Smooth.f (k + 1) a0 a1 a2 a3) := by
 intro a0 a1 a2 a3 k
 obtain ⟨ih0, ih1⟩ := swarfref49_Smooth.mono_l k
 unfold swarfref49_Smooth.f
 repeat' first
   | (with_reducible exact ih0 _ _ _ _ _ _ _)
   | (with_reducible exact ih1 _ _ _ _ _ _ _ _)
   | (with_reducible exact LeO.refl _)
   | (with_reducible exact LeO.none _)
   | (with_reducible refine LeO.ite ?_ ?_)
   | (with_reducible refine LeO.bind ?_ (fun _ => ?_))
   | exact ih0 _ _ _ _ _ _ _
   | exact ih1 _ _ _ _ _ _ _ _
   | exact LeO.none _
   | refine LeO.ite ?_ ?_
   | refine LeO.bind ?_ (fun _ => ?_)
set_option maxHeartbeats 8000000 in
set_option maxRecDepth 100000 in
theorem swarfref49_Smooth.calls (k : Nat) (A0 : Option Addr) (c0 : Nat) (l0 : List Int) (a1_0 : Int) (a1_1 : Int) (a1_2 : Int) (r : Bool) (w : World) (hr0 : Kd.C (Kd.int .i64) w A0 l0.length l0) (hc0 : l0.length ≤ c0) (h : swarfref49_Smooth.f k l0 a1_0 a1_1 a1_2 = some r) :
  Calls Try.prog 18 #[.slice A0 l0.length c0, .agg #[.int .i64 a1_0, .int .i64 a1_1, .int .i64 a1_2]] w fun e w' => e = .returned (.bool r) ∧ Below w.heap.size w w' := by
 have hu23 := Try.underlying23
 have HR0 := Aside0.mk hr0
 have HC0 := Aside0.mk hc0
 clear hr0 hc0
 have HB := Aside0.mk (Below.refl w.heap.size w)
 have H : ((swarfref49_Valid.f a1_0 a1_1 a1_2).bind fun t201 => (if t201 = 0 then (swarfref49_Smooth.l0 k l0 0 0 0 a1_0 a1_1 a1_2) else (some false))) = some r := h
 clear h
 replace H := Option.bind_eq_some_iff.mp H
 obtain ⟨t201, A30, H⟩ := H
 replace H : (if t201 = 0 then (swarfref49_Smooth.l0 k l0 0 0 0 a1_0 a1_1 a1_2) else (some false)) = some r := H
 have A3 := Aside0.mk A30
 clear A30
 by_cases c4 : t201 = 0
 ·rw [if_pos c4] at H
  have c4b0 : (t201 == 0) = true := beq_iff_eq.mpr c4
  have c4b1 : (t201 != 0) = false := bne_eq_false_iff_eq.mpr c4
  clear c4
  have H' := Aside0.mk H
  clear H
  go_enter Try.func18, Try.ntmps18
  go_wp2_with (first | ((with_reducible refine gate_dst (N := 3) rfl ?_); refine box_event ?hg (N := 3) ?hd (cs := #[.int .i64 a1_0, .int .i64 a1_1, .int .i64 a1_2]) (t := 23) ?hr ?_; (case hd => rfl); (case hg => rfl); (case hr => first | (go_simp; done) | (go_simp; rfl)); intro gb200 hg w5 hbox hb; have n0_ := Aside0.mk (below_step (by repeat (first | (with_reducible first | exact HB.out | apply below_alloc | apply pw_below_drewN | apply below_drew1) | exact HB.out)) hb); have n1_ := Aside0.mk (hbox); have n2_ := Aside0.mk ((by rw [hg]; exact (below_size (by repeat (first | (with_reducible first | exact HB.out | apply below_alloc | apply pw_below_drewN | apply below_drew1) | exact HB.out))) : w.heap.size ≤ gb200)); have n3_ := Aside0.mk ((by rw [hg]; exact (below_size (by repeat (first | (with_reducible first | exact HB.out | apply below_alloc | apply pw_below_drewN | apply below_drew1) | exact HB.out))) : w.heap.size ≤ gb200)); clear HB; have HB := n0_; have BK200 := n1_; have GW200 := n2_; have GE200 := n3_; clear n0_ n1_ n2_ n3_; clear hb hbox hg; have hcz6_0 : w5.cell? ⟨gb200, 0, none⟩ = some (.int .i64 a1_0) := (blk_cell BK200.out 0).trans rfl; have hcz6_1 : w5.cell? ⟨gb200, 1, none⟩ = some (.int .i64 a1_1) := (blk_cell BK200.out 1).trans rfl; have hcz6_2 : w5.cell? ⟨gb200, 2, none⟩ = some (.int .i64 a1_2) := (blk_cell BK200.out 2).trans rfl; have hfz6_0 := blk_frozen BK200.out 0; have hfz6_1 := blk_frozen BK200.out 1; have hfz6_2 := blk_frozen BK200.out 2) | ((with_reducible refine gate_callee (f := 16) rfl ?_); refine goesL_ (some 10) rfl rfl Try.func16 (by kernel_rfl) rfl #[.agg #[.int .i64 a1_0, .int .i64 a1_1, .int .i64 a1_2]] rfl (by (try simp only [List.map_toArray, List.map_cons, List.map_nil]); first | done | rfl | (simp only [List.length_drop, List.length_take]; rfl)) ?_; (with_reducible refine (swarfref49_Valid.calls a1_0 a1_1 a1_2 t201 _ A3.out).mono ?_); rintro e w7 ⟨rfl, hb⟩; refine ⟨_, rfl, ?_⟩; have n0_ := Aside0.mk (blk_below (g := gb200) (o := .cells #[.int .i64 a1_0, .int .i64 a1_1, .int .i64 a1_2] 23 (0, 0)) (by (with_reducible repeat (first | refine blk_drewN ?_ _ | refine blk_drew ?_ | refine blk_alloc ?_ _)); exact BK200.out) hb); have n1_ := Aside0.mk (below_step (by repeat (first | (with_reducible first | exact HB.out | apply below_alloc | apply pw_below_drewN | apply below_drew1 | refine below_set ?_ GE200.out) | exact HB.out)) hb); clear BK200; clear HB; have BK200 := n0_; have HB := n1_; clear n0_ n1_; (try clear hb); (try clear hb2); (try clear hk); (try clear hi)))
  go_loopg [5, 6, 7] k (fun kq v5 v6 v7 w' => ∃ (x5_1 : Int) (x6_1 : Int) (x7_1 : Int), v5 = .int .i64 x5_1 ∧ v6 = .int .i64 x6_1 ∧ v7 = .int .i64 x7_1 ∧ Aside0 (swarfref49_Smooth.l0 kq l0 x5_1 x6_1 x7_1 a1_0 a1_1 a1_2 = some r) ∧ Aside0 (kq ≤ k) ∧ Aside0 (w'.heap[gb200]? = some (.cells #[.int .i64 a1_0, .int .i64 a1_1, .int .i64 a1_2] 23 (0, 0))) ∧ Aside0 (Below w.heap.size w w'))
  case atStart => exact ⟨(0), (0), (0), (by first | rfl | (simp; done) | (simp [*]; done)), (by first | rfl | (simp; done) | (simp [*]; done)), (by first | rfl | (simp; done) | (simp [*]; done)), H', ⟨Nat.le_refl _⟩, ⟨by (with_reducible repeat (first | refine blk_drewN ?_ _ | refine blk_drew ?_ | refine blk_alloc ?_ _)); exact BK200.out⟩, ⟨by repeat (first | (with_reducible first | exact HB.out | apply below_alloc | apply pw_below_drewN | apply below_drew1 | refine below_set ?_ GE200.out) | exact HB.out)⟩⟩
  case round =>
   clear H'
   try clear c1
   try clear p2
   try clear c4
   try clear c4b0
   try clear c4b1
   try clear hcz6_0
   try clear hcz6_1
   try clear hcz6_2
   try clear hfz6_0
   try clear hfz6_1
   try clear hfz6_2
   obtain ⟨x5_1, x6_1, x7_1, rfl, rfl, rfl, HA, HK1, BK200, HB⟩ := hrel
   cases gk with
   | zero => exact absurd HA.out (by simp [swarfref49_Smooth.l0])
   | succ k1 =>
    have H := HA.out
    clear HA
    simp only [swarfref49_Smooth.l0] at H
    by_cases c8 : x7_1 < (wrap64 ((l0.length : Int) + 2))
    ·rw [if_pos c8] at H
     have c8b0 : decide (x7_1 < (wrap64 ((l0.length : Int) + 2))) = true := decide_eq_true c8
     clear c8
     have HC9 := Aside0.mk H
     clear H
     go_upto_if 22 with (fail)
     go_cut [8] (fun v8 wc => ∃ (kq : Nat) (x8_8 : Int), v8 = .int .i64 x8_8 ∧ Aside0 (swarfref49_Smooth.j1 kq l0 x5_1 x6_1 x7_1 x8_8 a1_0 a1_1 a1_2 = some r) ∧ Aside0 (kq ≤ k1) ∧ Aside0 (wc.heap[gb200]? = some (.cells #[.int .i64 a1_0, .int .i64 a1_1, .int .i64 a1_2] 23 (0, 0))) ∧ Aside0 (Below w.heap.size w wc))
     case first =>
      have H := HC9.out
      clear HC9
      by_cases c10 : x7_1 < (l0.length : Int)
      ·rw [if_pos c10] at H
       have c10b0 : decide (x7_1 < (l0.length : Int)) = true := decide_eq_true c10
       clear c10
       (first | rw [c10b0] | (simp only [i64_w, i32_w]; rw [c10b0]) | skip)
       by_cases c11 : 0 ≤ x7_1
       ·rw [if_pos c11] at H
        have c11b0 : decide (0 ≤ x7_1) = true := decide_eq_true c11
        clear c11
        have H' := Aside0.mk H
        clear H
        have p202 : 0 ≤ (x7_1 : Int) := of_decide_eq_true (by first | (with_reducible assumption) | assumption)
        have q202 : x7_1 < (l0.length : Int) := of_decide_eq_true (by first | (with_reducible assumption) | assumption)
        obtain ⟨ad202, e202, hx202_0⟩ := Kd.at_int HR0.out x7_1 p202 q202
        cases e202
        replace hx202_0 := (HB.out.cell (World.block_lt_of_cell? w _ hx202_0)).trans hx202_0
        replace p202 := eq_true p202
        replace q202 := eq_true q202
        go_wp2
        go_meet
        case rel => exact ⟨_, (rd l0 x7_1), (by first | rfl | (simp; done) | (simp [*]; done)), H', ⟨by have := HK1.out; first | omega | exact Nat.le_refl _⟩, ⟨by (with_reducible repeat (first | refine blk_drewN ?_ _ | refine blk_drew ?_ | refine blk_alloc ?_ _)); exact BK200.out⟩, ⟨by repeat (first | (with_reducible first | exact HB.out | apply below_alloc | apply pw_below_drewN | apply below_drew1 | refine below_set ?_ GE200.out) | exact HB.out)⟩⟩
       ·rw [if_neg c11] at H
        exact absurd H (by simp)
      ·rw [if_neg c10] at H
       have c10b0 : decide (x7_1 < (l0.length : Int)) = false := decide_eq_false c10
       clear c10
       (first | rw [c10b0] | (simp only [i64_w, i32_w]; rw [c10b0]) | skip)
       have H' := Aside0.mk H
       clear H
       go_wp2
       go_meet
       case rel => exact ⟨_, (0), (by first | rfl | (simp; done) | (simp [*]; done)), H', ⟨by have := HK1.out; first | omega | exact Nat.le_refl _⟩, ⟨by (with_reducible repeat (first | refine blk_drewN ?_ _ | refine blk_drew ?_ | refine blk_alloc ?_ _)); exact BK200.out⟩, ⟨by repeat (first | (with_reducible first | exact HB.out | apply below_alloc | apply pw_below_drewN | apply below_drew1 | refine below_set ?_ GE200.out) | exact HB.out)⟩⟩
     case rest =>
      clear HC9
      try clear c1
      try clear p2
      try clear q2
      try clear hx2
      try clear c4
      try clear c4b0
      try clear c4b1
      try clear p6
      try clear c8
      try clear c8b0
      try clear c10
      try clear c10b0
      try clear c11
      try clear c11b0
      try clear hcz6_0
      try clear hcz6_1
      try clear hcz6_2
      try clear hfz6_0
      try clear hfz6_1
      try clear hfz6_2
      try clear hx202_0
      try clear p2
      try clear p202
      try clear q202
      obtain ⟨kq, x8_8, rfl, HA, HJ8, BK200, HB⟩ := hcut
      cases kq with
      | zero => exact absurd HA.out (by simp [swarfref49_Smooth.j1])
      | succ kj8 =>
       have H := HA.out
       clear HA
       simp only [swarfref49_Smooth.j1] at H
       replace H := Option.bind_eq_some_iff.mp H
       obtain ⟨t203, A120, H⟩ := H
       replace H : (if t203 = true then ((swarfref49_within.f (wrap64 (x8_8 - x5_1)) (wrap64 (-a1_1)) a1_1).bind fun t204 => (if t204 = true then ((swarfref49_within.f (wrap64 ((wrap64 (x8_8 - x5_1)) - x6_1)) (wrap64 (-a1_2)) a1_2).bind fun t205 => (if t205 = true then (swarfref49_Smooth.l0 kj8 l0 x8_8 (wrap64 (x8_8 - x5_1)) (wrap64 (x7_1 + 1)) a1_0 a1_1 a1_2) else (some false))) else (some false))) else (some false)) = some r := H
       have A12 := Aside0.mk A120
       clear A120
       by_cases c13 : t203 = true
       ·subst c13
        have H1 : ((swarfref49_within.f (wrap64 (x8_8 - x5_1)) (wrap64 (-a1_1)) a1_1).bind fun t204 => (if t204 = true then ((swarfref49_within.f (wrap64 ((wrap64 (x8_8 - x5_1)) - x6_1)) (wrap64 (-a1_2)) a1_2).bind fun t205 => (if t205 = true then (swarfref49_Smooth.l0 kj8 l0 x8_8 (wrap64 (x8_8 - x5_1)) (wrap64 (x7_1 + 1)) a1_0 a1_1 a1_2) else (some false))) else (some false))) = some r := by rw [if_pos rfl] at H; exact H
        clear H
        have H := H1
        clear H1
        replace H := Option.bind_eq_some_iff.mp H
        obtain ⟨t204, A140, H⟩ := H
        replace H : (if t204 = true then ((swarfref49_within.f (wrap64 ((wrap64 (x8_8 - x5_1)) - x6_1)) (wrap64 (-a1_2)) a1_2).bind fun t205 => (if t205 = true then (swarfref49_Smooth.l0 kj8 l0 x8_8 (wrap64 (x8_8 - x5_1)) (wrap64 (x7_1 + 1)) a1_0 a1_1 a1_2) else (some false))) else (some false)) = some r := H
        have A14 := Aside0.mk A140
        clear A140
        by_cases c15 : t204 = true
        ·subst c15
         have H1 : ((swarfref49_within.f (wrap64 ((wrap64 (x8_8 - x5_1)) - x6_1)) (wrap64 (-a1_2)) a1_2).bind fun t205 => (if t205 = true then (swarfref49_Smooth.l0 kj8 l0 x8_8 (wrap64 (x8_8 - x5_1)) (wrap64 (x7_1 + 1)) a1_0 a1_1 a1_2) else (some false))) = some r := by rw [if_pos rfl] at H; exact H
         clear H
         have H := H1
         clear H1
         replace H := Option.bind_eq_some_iff.mp H
         obtain ⟨t205, A160, H⟩ := H
         replace H : (if t205 = true then (swarfref49_Smooth.l0 kj8 l0 x8_8 (wrap64 (x8_8 - x5_1)) (wrap64 (x7_1 + 1)) a1_0 a1_1 a1_2) else (some false)) = some r := H
         have A16 := Aside0.mk A160
         clear A160
         by_cases c17 : t205 = true
         ·subst c17
          have H1 : (swarfref49_Smooth.l0 kj8 l0 x8_8 (wrap64 (x8_8 - x5_1)) (wrap64 (x7_1 + 1)) a1_0 a1_1 a1_2) = some r := by rw [if_pos rfl] at H; exact H
          clear H
          have H := H1
          clear H1
          have H' := Aside0.mk H
          clear H
          have hcz18_0 : wc.cell? ⟨gb200, 0, none⟩ = some (.int .i64 a1_0) := (blk_cell BK200.out 0).trans rfl
          have hcz18_1 : wc.cell? ⟨gb200, 1, none⟩ = some (.int .i64 a1_1) := (blk_cell BK200.out 1).trans rfl
          have hcz18_2 : wc.cell? ⟨gb200, 2, none⟩ = some (.int .i64 a1_2) := (blk_cell BK200.out 2).trans rfl
          have hfz18_0 := blk_frozen BK200.out 0
          have hfz18_1 := blk_frozen BK200.out 1
          have hfz18_2 := blk_frozen BK200.out 2
          go_wp2_with (first | ((with_reducible refine gate_callee (f := 33) rfl ?_); refine goesL_ (some 30) rfl rfl Try.func33 (by kernel_rfl) rfl #[.int .i64 x8_8, .int .i64 0, .int .i64 a1_0] rfl (by (try simp only [List.map_toArray, List.map_cons, List.map_nil]); first | done | rfl | (simp only [List.length_drop, List.length_take]; rfl)) ?_; (with_reducible refine (swarfref49_within.calls x8_8 0 a1_0 true _ A12.out).mono ?_); rintro e w' ⟨rfl, ⟨nd, rfl⟩⟩; refine ⟨_, rfl, ?_⟩) | (go_at_call 33; (with_reducible refine (swarfref49_within.calls (wrap64 (x8_8 - x5_1)) (wrap64 (-a1_1)) a1_1 true _ A14.out).mono ?_); rintro e w' ⟨rfl, ⟨nd, rfl⟩⟩) | (go_at_call 33; (with_reducible refine (swarfref49_within.calls (wrap64 ((wrap64 (x8_8 - x5_1)) - x6_1)) (wrap64 (-a1_2)) a1_2 true _ A16.out).mono ?_); rintro e w' ⟨rfl, ⟨nd, rfl⟩⟩))
          go_roundg kj8
          case measure => have := HK1.out; have := HJ8.out; omega
          case rel => exact ⟨(x8_8), (wrap64 (x8_8 - x5_1)), (wrap64 (x7_1 + 1)), (by first | rfl | (simp; done) | (simp [*]; done)), (by first | rfl | (simp; done) | (simp [*]; done)), (by first | rfl | (simp; done) | (simp [*]; done)), H', ⟨by have := HK1.out; have := HJ8.out; omega⟩, ⟨by (with_reducible repeat (first | refine blk_drewN ?_ _ | refine blk_drew ?_ | refine blk_alloc ?_ _)); exact BK200.out⟩, ⟨by repeat (first | (with_reducible first | exact HB.out | apply below_alloc | apply pw_below_drewN | apply below_drew1 | refine below_set ?_ GE200.out) | exact HB.out)⟩⟩
         ·replace c17 := Bool.eq_false_iff.mpr c17
          subst c17
          have H1 : (some false) = some r := by rw [if_neg (show ¬ (false = true) by decide)] at H; exact H
          clear H
          have H := H1
          clear H1
          obtain rfl := Option.some.inj H
          have hcz19_0 : wc.cell? ⟨gb200, 0, none⟩ = some (.int .i64 a1_0) := (blk_cell BK200.out 0).trans rfl
          have hcz19_1 : wc.cell? ⟨gb200, 1, none⟩ = some (.int .i64 a1_1) := (blk_cell BK200.out 1).trans rfl
          have hcz19_2 : wc.cell? ⟨gb200, 2, none⟩ = some (.int .i64 a1_2) := (blk_cell BK200.out 2).trans rfl
          have hfz19_0 := blk_frozen BK200.out 0
          have hfz19_1 := blk_frozen BK200.out 1
          have hfz19_2 := blk_frozen BK200.out 2
          go_wp2_with (first | ((with_reducible refine gate_callee (f := 33) rfl ?_); refine goesL_ (some 30) rfl rfl Try.func33 (by kernel_rfl) rfl #[.int .i64 x8_8, .int .i64 0, .int .i64 a1_0] rfl (by (try simp only [List.map_toArray, List.map_cons, List.map_nil]); first | done | rfl | (simp only [List.length_drop, List.length_take]; rfl)) ?_; (with_reducible refine (swarfref49_within.calls x8_8 0 a1_0 true _ A12.out).mono ?_); rintro e w' ⟨rfl, ⟨nd, rfl⟩⟩; refine ⟨_, rfl, ?_⟩) | (go_at_call 33; (with_reducible refine (swarfref49_within.calls (wrap64 (x8_8 - x5_1)) (wrap64 (-a1_1)) a1_1 true _ A14.out).mono ?_); rintro e w' ⟨rfl, ⟨nd, rfl⟩⟩) | (go_at_call 33; (with_reducible refine (swarfref49_within.calls (wrap64 ((wrap64 (x8_8 - x5_1)) - x6_1)) (wrap64 (-a1_2)) a1_2 false _ A16.out).mono ?_); rintro e w' ⟨rfl, ⟨nd, rfl⟩⟩))
          go_ret
          exact ⟨by first | rfl | (simp [errW_none, errW_some] <;> rfl) | (simp [*, errW_none, errW_some] <;> rfl), by repeat (first | (with_reducible first | exact HB.out | apply below_alloc | apply pw_below_drewN | apply below_drew1 | refine below_set ?_ GE200.out) | exact HB.out)⟩
        ·replace c15 := Bool.eq_false_iff.mpr c15
         subst c15
         have H1 : (some false) = some r := by rw [if_neg (show ¬ (false = true) by decide)] at H; exact H
         clear H
         have H := H1
         clear H1
         obtain rfl := Option.some.inj H
         have hcz20_0 : wc.cell? ⟨gb200, 0, none⟩ = some (.int .i64 a1_0) := (blk_cell BK200.out 0).trans rfl
         have hcz20_1 : wc.cell? ⟨gb200, 1, none⟩ = some (.int .i64 a1_1) := (blk_cell BK200.out 1).trans rfl
         have hcz20_2 : wc.cell? ⟨gb200, 2, none⟩ = some (.int .i64 a1_2) := (blk_cell BK200.out 2).trans rfl
         have hfz20_0 := blk_frozen BK200.out 0
         have hfz20_1 := blk_frozen BK200.out 1
         have hfz20_2 := blk_frozen BK200.out 2
         go_wp2_with (first | ((with_reducible refine gate_callee (f := 33) rfl ?_); refine goesL_ (some 30) rfl rfl Try.func33 (by kernel_rfl) rfl #[.int .i64 x8_8, .int .i64 0, .int .i64 a1_0] rfl (by (try simp only [List.map_toArray, List.map_cons, List.map_nil]); first | done | rfl | (simp only [List.length_drop, List.length_take]; rfl)) ?_; (with_reducible refine (swarfref49_within.calls x8_8 0 a1_0 true _ A12.out).mono ?_); rintro e w' ⟨rfl, ⟨nd, rfl⟩⟩; refine ⟨_, rfl, ?_⟩) | (go_at_call 33; (with_reducible refine (swarfref49_within.calls (wrap64 (x8_8 - x5_1)) (wrap64 (-a1_1)) a1_1 false _ A14.out).mono ?_); rintro e w' ⟨rfl, ⟨nd, rfl⟩⟩))
         go_ret
         exact ⟨by first | rfl | (simp [errW_none, errW_some] <;> rfl) | (simp [*, errW_none, errW_some] <;> rfl), by repeat (first | (with_reducible first | exact HB.out | apply below_alloc | apply pw_below_drewN | apply below_drew1 | refine below_set ?_ GE200.out) | exact HB.out)⟩
       ·replace c13 := Bool.eq_false_iff.mpr c13
        subst c13
        have H1 : (some false) = some r := by rw [if_neg (show ¬ (false = true) by decide)] at H; exact H
        clear H
        have H := H1
        clear H1
        obtain rfl := Option.some.inj H
        have hcz21_0 : wc.cell? ⟨gb200, 0, none⟩ = some (.int .i64 a1_0) := (blk_cell BK200.out 0).trans rfl
        have hcz21_1 : wc.cell? ⟨gb200, 1, none⟩ = some (.int .i64 a1_1) := (blk_cell BK200.out 1).trans rfl
        have hcz21_2 : wc.cell? ⟨gb200, 2, none⟩ = some (.int .i64 a1_2) := (blk_cell BK200.out 2).trans rfl
        have hfz21_0 := blk_frozen BK200.out 0
        have hfz21_1 := blk_frozen BK200.out 1
        have hfz21_2 := blk_frozen BK200.out 2
        go_wp2_with (first | ((with_reducible refine gate_callee (f := 33) rfl ?_); refine goesL_ (some 30) rfl rfl Try.func33 (by kernel_rfl) rfl #[.int .i64 x8_8, .int .i64 0, .int .i64 a1_0] rfl (by (try simp only [List.map_toArray, List.map_cons, List.map_nil]); first | done | rfl | (simp only [List.length_drop, List.length_take]; rfl)) ?_; (with_reducible refine (swarfref49_within.calls x8_8 0 a1_0 false _ A12.out).mono ?_); rintro e w' ⟨rfl, ⟨nd, rfl⟩⟩; refine ⟨_, rfl, ?_⟩))
        go_ret
        exact ⟨by first | rfl | (simp [errW_none, errW_some] <;> rfl) | (simp [*, errW_none, errW_some] <;> rfl), by repeat (first | (with_reducible first | exact HB.out | apply below_alloc | apply pw_below_drewN | apply below_drew1 | refine below_set ?_ GE200.out) | exact HB.out)⟩
    ·rw [if_neg c8] at H
     have c8b0 : decide (x7_1 < (wrap64 ((l0.length : Int) + 2))) = false := decide_eq_false c8
     clear c8
     obtain rfl := Option.some.inj H
     go_wp2
     go_ret
     exact ⟨by first | rfl | (simp [errW_none, errW_some] <;> rfl) | (simp [*, errW_none, errW_some] <;> rfl), by repeat (first | (with_reducible first | exact HB.out | apply below_alloc | apply pw_below_drewN | apply below_drew1 | refine below_set ?_ GE200.out) | exact HB.out)⟩
 ·rw [if_neg c4] at H
  have c4b0 : (t201 == 0) = false := beq_eq_false_iff_ne.mpr c4
  have c4b1 : (t201 != 0) = true := bne_iff_ne.mpr c4
  obtain rfl := Option.some.inj H
  go_enter Try.func18, Try.ntmps18
  go_wp2_with (first | ((with_reducible refine gate_dst (N := 3) rfl ?_); refine box_event ?hg (N := 3) ?hd (cs := #[.int .i64 a1_0, .int .i64 a1_1, .int .i64 a1_2]) (t := 23) ?hr ?_; (case hd => rfl); (case hg => rfl); (case hr => first | (go_simp; done) | (go_simp; rfl)); intro gb200 hg w22 hbox hb; have n0_ := Aside0.mk (below_step (by repeat (first | (with_reducible first | exact HB.out | apply below_alloc | apply pw_below_drewN | apply below_drew1) | exact HB.out)) hb); have n1_ := Aside0.mk (hbox); have n2_ := Aside0.mk ((by rw [hg]; exact (below_size (by repeat (first | (with_reducible first | exact HB.out | apply below_alloc | apply pw_below_drewN | apply below_drew1) | exact HB.out))) : w.heap.size ≤ gb200)); have n3_ := Aside0.mk ((by rw [hg]; exact (below_size (by repeat (first | (with_reducible first | exact HB.out | apply below_alloc | apply pw_below_drewN | apply below_drew1) | exact HB.out))) : w.heap.size ≤ gb200)); clear HB; have HB := n0_; have BK200 := n1_; have GW200 := n2_; have GE200 := n3_; clear n0_ n1_ n2_ n3_; clear hb hbox hg; have hcz23_0 : w22.cell? ⟨gb200, 0, none⟩ = some (.int .i64 a1_0) := (blk_cell BK200.out 0).trans rfl; have hcz23_1 : w22.cell? ⟨gb200, 1, none⟩ = some (.int .i64 a1_1) := (blk_cell BK200.out 1).trans rfl; have hcz23_2 : w22.cell? ⟨gb200, 2, none⟩ = some (.int .i64 a1_2) := (blk_cell BK200.out 2).trans rfl; have hfz23_0 := blk_frozen BK200.out 0; have hfz23_1 := blk_frozen BK200.out 1; have hfz23_2 := blk_frozen BK200.out 2) | ((with_reducible refine gate_callee (f := 16) rfl ?_); refine goesL_ (some 10) rfl rfl Try.func16 (by kernel_rfl) rfl #[.agg #[.int .i64 a1_0, .int .i64 a1_1, .int .i64 a1_2]] rfl (by (try simp only [List.map_toArray, List.map_cons, List.map_nil]); first | done | rfl | (simp only [List.length_drop, List.length_take]; rfl)) ?_; (with_reducible refine (swarfref49_Valid.calls a1_0 a1_1 a1_2 t201 _ A3.out).mono ?_); rintro e w24 ⟨rfl, hb⟩; refine ⟨_, rfl, ?_⟩; have n0_ := Aside0.mk (blk_below (g := gb200) (o := .cells #[.int .i64 a1_0, .int .i64 a1_1, .int .i64 a1_2] 23 (0, 0)) (by (with_reducible repeat (first | refine blk_drewN ?_ _ | refine blk_drew ?_ | refine blk_alloc ?_ _)); exact BK200.out) hb); have n1_ := Aside0.mk (below_step (by repeat (first | (with_reducible first | exact HB.out | apply below_alloc | apply pw_below_drewN | apply below_drew1 | refine below_set ?_ GE200.out) | exact HB.out)) hb); clear BK200; clear HB; have BK200 := n0_; have HB := n1_; clear n0_ n1_; (try clear hb); (try clear hb2); (try clear hk); (try clear hi)))
  go_ret
  exact ⟨by first | rfl | (simp [errW_none, errW_some] <;> rfl) | (simp [*, errW_none, errW_some] <;> rfl), by repeat (first | (with_reducible first | exact HB.out | apply below_alloc | apply pw_below_drewN | apply below_drew1 | refine below_set ?_ GE200.out) | exact HB.out)⟩
end Go.Proofs.Ytdfilkofhgmakaa.F
