-- The machine side of a proof, written by a program of the session out of Lean's print of the loaded functions. Lean checks it.
import Derived.Test.YtblonchpophnkaaFx0
namespace Go.Proofs.Ytblonchpophnkaa.F
open Go.RowKit Go.Proofs.YtblonchpophnkaaW.PrintWords Go.Proofs.YtblonchpophnkaaW.PrintLast Go.Proofs.YtblonchpophnkaaW.PrintMore
attribute [local go_sem] max2_int min2_int max_two min_two max_three min_three max_four min_four   -- for this text's walks alone
set_option linter.unusedVariables false
set_option linter.unusedSimpArgs false
def swarflaw33_far.l0 : Nat → Int → Int → Int → Int → Int → List Int → Int → Int → Option (Bool)
 | 0, _, _, _, _, _, _, _, _ => none
 | k + 1, x0, x1, x2, x3, x4, x22, x23, x24 => if x24 < x23 then (if 0 ≤ x24 then (if x24 < (x22.length : Int) then (if (rd x22 x24) > 20000 then (some false) else (if (rd x22 x24) < (-20000) then (some false) else (swarflaw33_far.l0 k x0 x1 x2 x3 x4 x22 x23 (wrap64 (x24 + 1))))) else (none)) else (none)) else (if (wrap64 (-(wrap64 ((wrap64 (x0 * (wrap64 (x2 - x0)))) + (wrap64 (x1 * (wrap64 (x3 - x1)))))))) ≤ 0 then (some (decide ((wrap64 ((wrap64 (x0 * x0)) + (wrap64 (x1 * x1)))) ≥ (wrap64 (x4 * x4))))) else (if (wrap64 (-(wrap64 ((wrap64 (x0 * (wrap64 (x2 - x0)))) + (wrap64 (x1 * (wrap64 (x3 - x1)))))))) ≥ (wrap64 ((wrap64 ((wrap64 (x2 - x0)) * (wrap64 (x2 - x0)))) + (wrap64 ((wrap64 (x3 - x1)) * (wrap64 (x3 - x1)))))) then (some (decide ((wrap64 ((wrap64 (x2 * x2)) + (wrap64 (x3 * x3)))) ≥ (wrap64 (x4 * x4))))) else (some (decide ((wrap64 ((wrap64 ((wrap64 (x0 * (wrap64 (x3 - x1)))) - (wrap64 (x1 * (wrap64 (x2 - x0)))))) * (wrap64 ((wrap64 (x0 * (wrap64 (x3 - x1)))) - (wrap64 (x1 * (wrap64 (x2 - x0)))))))) ≥ (wrap64 ((wrap64 (x4 * x4)) * (wrap64 ((wrap64 ((wrap64 (x2 - x0)) * (wrap64 (x2 - x0)))) + (wrap64 ((wrap64 (x3 - x1)) * (wrap64 (x3 - x1)))))))))))))
def swarflaw33_far.f (k : Nat) (a0 : Int) (a1 : Int) (a2 : Int) (a3 : Int) (a4 : Int) : Option (Bool) := (some (([a0, a1, a2, a3] : List Int) : List Int)).bind fun y293 => (swarflaw33_far.l0 k a0 a1 a2 a3 a4 y293 (y293.length : Int) 0)
theorem swarflaw33_far.mono_l : ∀ k, (∀ y0 y1 y2 y3 y4 y5 y6 y7, LeO (swarflaw33_far.l0 k y0 y1 y2 y3 y4 y5 y6 y7) (swarflaw33_far.l0 (k + 1) y0 y1 y2 y3 y4 y5 y6 y7))
 | 0 => fun _ _ _ _ _ _ _ _ r h => by simp [swarflaw33_far.l0] at h
 | k + 1 => by
  have ih0 := swarflaw33_far.mono_l k
  ·intro y0 y1 y2 y3 y4 y5 y6 y7
   unfold swarflaw33_far.l0
   repeat' first
   | (with_reducible exact ih0 _ _ _ _ _ _ _ _)
   | (with_reducible exact LeO.refl _)
   | (with_reducible exact LeO.none _)
   | (with_reducible refine LeO.ite ?_ ?_)
   | (with_reducible refine LeO.bind ?_ (fun _ => ?_))
   | exact ih0 _ _ _ _ _ _ _ _
   | exact LeO.none _
   | refine LeO.ite ?_ ?_
   | refine LeO.bind ?_ (fun _ => ?_)
theorem swarflaw33_far.mono : ∀ a0 a1 a2 a3 a4 k, LeO (swarflaw33_far.f k a0 a1 a2 a3 a4) (swarflaw33_far.f (k + 1) a0 a1 a2 a3 a4) := by
 intro a0 a1 a2 a3 a4 k
 have ih0 := swarflaw33_far.mono_l k
 unfold swarflaw33_far.f
 repeat' first
   | (with_reducible exact ih0 _ _ _ _ _ _ _ _)
   | (with_reducible exact LeO.refl _)
   | (with_reducible exact LeO.none _)
   | (with_reducible refine LeO.ite ?_ ?_)
   | (with_reducible refine LeO.bind ?_ (fun _ => ?_))
   | exact ih0 _ _ _ _ _ _ _ _
   | exact LeO.none _
   | refine LeO.ite ?_ ?_
   | refine LeO.bind ?_ (fun _ => ?_)
set_option maxHeartbeats 8000000 in
set_option maxRecDepth 100000 in
theorem swarflaw33_far.calls (k : Nat) (a0 : Int) (a1 : Int) (a2 : Int) (a3 : Int) (a4 : Int) (r : Bool) (w : World) (h : swarflaw33_far.f k a0 a1 a2 a3 a4 = some r) :
  Calls Try.prog 22 #[.int .i64 a0, .int .i64 a1, .int .i64 a2, .int .i64 a3, .int .i64 a4] w fun e w' => e = .returned (.bool r) ∧ Below w.heap.size w w' := by
 have HB := Aside0.mk (Below.refl w.heap.size w)
 have H : ((some (([a0, a1, a2, a3] : List Int) : List Int)).bind fun y293 => (swarflaw33_far.l0 k a0 a1 a2 a3 a4 y293 (y293.length : Int) 0)) = some r := h
 clear h
 obtain ⟨y293, hy293⟩ : ∃ y_ : List Int, y_ = (([a0, a1, a2, a3] : List Int)) := ⟨_, rfl⟩
 replace H : (swarflaw33_far.l0 k a0 a1 a2 a3 a4 y293 (y293.length : Int) 0) = some r := by first | (rw [hy293]; with_reducible exact H) | (have H2_ := (Option.bind_some _ _).symm.trans H; rw [hy293]; with_reducible exact H2_) | (have H2_ := (Option.bind_some _ _).symm.trans H; with_reducible exact H2_) | with_reducible exact H | (rw [hy293]; exact H) | exact H
 have Ny293 := Aside0.mk hy293
 clear hy293
 have H' := Aside0.mk H
 clear H
 go_enter Try.func22, Try.ntmps22
 go_wp2_with (first | ((with_reducible refine gate_dst (N := 22) rfl ?_); refine Kd.R_lit (Kd.int .i64) _ 2 ?hg (N := 22) ?hd (xs := ([a0, a1, a2, a3] : List Int)) (inner := [.int .i64 a0, .int .i64 a1, .int .i64 a2, .int .i64 a3]) (ok := fun _ => True) (okp := fun _ => True) ?hr ?hp (fun _ hk => hk) trivial (Below.refl _ _) (Nat.le_refl _) (by simp) ?_; (case hd => rfl); (case hg => rfl); (case hr => first | (go_simp; done) | (go_simp; rfl)); (case hp => exact (Reps.one (show Kd.M (Kd.int .i64) _ _ _ a0 [.int .i64 a0] from rfl) (Reps.one (show Kd.M (Kd.int .i64) _ _ _ a1 [.int .i64 a1] from rfl) (Reps.one (show Kd.M (Kd.int .i64) _ _ _ a2 [.int .i64 a2] from rfl) (Reps.one (show Kd.M (Kd.int .i64) _ _ _ a3 [.int .i64 a3] from rfl) (Reps.none _ _)))))); intro v294 w6 ho7 hb hg_ hnew_; clear hg_ hnew_; (first | rw [← Ny293.out] at ho7 | (simp only [Int.reduceToNat] at ho7; rw [← Ny293.out] at ho7)); have n0_ := Aside0.mk (Kd.R_lower ho7 (below_size (by repeat (first | (with_reducible first | exact HB.out | apply below_alloc | apply pw_below_drewN | apply below_drew1) | exact HB.out)))); have n1_ := Aside0.mk (below_step (by repeat (first | (with_reducible first | exact HB.out | apply below_alloc | apply pw_below_drewN | apply below_drew1) | exact HB.out)) hb); clear HB; have HO295 := n0_; have HB := n1_; clear n0_ n1_; clear hb ho7; obtain ⟨Ao8, co8, eo8⟩ := Kd.R_slice HO295.out; subst eo8))
 go_loopg [24] k (fun kq v24 w' => ∃ (x24_1 : Int), v24 = .int .i64 x24_1 ∧ Aside0 (swarflaw33_far.l0 kq a0 a1 a2 a3 a4 y293 (y293.length : Int) x24_1 = some r) ∧ Aside0 (kq ≤ k) ∧ Aside0 (Kd.R (Kd.int .i64) 2 w' w.heap.size (fun _ => True) (.slice Ao8 y293.length co8) y293) ∧ Aside0 (Below w.heap.size w w'))
 case atStart => exact ⟨(0), (by first | rfl | (simp; done) | (simp [*]; done)), H', ⟨Nat.le_refl _⟩, ⟨by (with_reducible repeat (first | apply Kd.R_alloc | apply Kd.R_drewN | apply Kd.R_drew)); exact HO295.out⟩, ⟨by repeat (first | (with_reducible first | exact HB.out | apply below_alloc | apply pw_below_drewN | apply below_drew1) | exact HB.out)⟩⟩
 case round =>
  clear H'
  try clear c2
  try clear p2
  obtain ⟨x24_1, rfl, HA, HK1, HO_22, HB⟩ := hrel
  cases gk with
  | zero => exact absurd HA.out (by simp [swarflaw33_far.l0])
  | succ k1 =>
   have H := HA.out
   clear HA
   simp only [swarflaw33_far.l0] at H
   by_cases c9 : x24_1 < (y293.length : Int)
   ·rw [if_pos c9] at H
    have c9b0 : decide (x24_1 < (y293.length : Int)) = true := decide_eq_true c9
    clear c9
    by_cases c10 : 0 ≤ x24_1
    ·rw [if_pos c10] at H
     have c10b0 : decide (0 ≤ x24_1) = true := decide_eq_true c10
     clear c10
     by_cases c11 : x24_1 < (y293.length : Int)
     ·rw [if_pos c11] at H
      have c11b0 : decide (x24_1 < (y293.length : Int)) = true := decide_eq_true c11
      clear c11
      by_cases c12 : (rd y293 x24_1) > 20000
      ·rw [if_pos c12] at H
       have c12b0 : decide (20000 < (rd y293 x24_1)) = true := decide_eq_true c12
       clear c12
       obtain rfl := Option.some.inj H
       have p296 : 0 ≤ (x24_1 : Int) := of_decide_eq_true (by first | (with_reducible assumption) | assumption)
       have q296 : x24_1 < (y293.length : Int) := of_decide_eq_true (by first | (with_reducible assumption) | assumption)
       obtain ⟨ad296, e296, hx296_0⟩ := Kd.at_int (Kd.R_reads' HO_22.out).2.2 x24_1 p296 q296
       cases e296
       replace p296 := eq_true p296
       replace q296 := eq_true q296
       go_wp2
       go_ret
       exact ⟨by first | rfl | (simp [errW_none, errW_some] <;> rfl) | (simp [*, errW_none, errW_some] <;> rfl), by repeat (first | (with_reducible first | exact HB.out | apply below_alloc | apply pw_below_drewN | apply below_drew1) | exact HB.out)⟩
      ·rw [if_neg c12] at H
       have c12b0 : decide (20000 < (rd y293 x24_1)) = false := decide_eq_false c12
       clear c12
       by_cases c13 : (rd y293 x24_1) < (-20000)
       ·rw [if_pos c13] at H
        have c13b0 : decide ((rd y293 x24_1) < (-20000)) = true := decide_eq_true c13
        clear c13
        obtain rfl := Option.some.inj H
        have p296 : 0 ≤ (x24_1 : Int) := of_decide_eq_true (by first | (with_reducible assumption) | assumption)
        have q296 : x24_1 < (y293.length : Int) := of_decide_eq_true (by first | (with_reducible assumption) | assumption)
        obtain ⟨ad296, e296, hx296_0⟩ := Kd.at_int (Kd.R_reads' HO_22.out).2.2 x24_1 p296 q296
        cases e296
        replace p296 := eq_true p296
        replace q296 := eq_true q296
        go_wp2
        go_ret
        exact ⟨by first | rfl | (simp [errW_none, errW_some] <;> rfl) | (simp [*, errW_none, errW_some] <;> rfl), by repeat (first | (with_reducible first | exact HB.out | apply below_alloc | apply pw_below_drewN | apply below_drew1) | exact HB.out)⟩
       ·rw [if_neg c13] at H
        have c13b0 : decide ((rd y293 x24_1) < (-20000)) = false := decide_eq_false c13
        clear c13
        have H' := Aside0.mk H
        clear H
        have p296 : 0 ≤ (x24_1 : Int) := of_decide_eq_true (by first | (with_reducible assumption) | assumption)
        have q296 : x24_1 < (y293.length : Int) := of_decide_eq_true (by first | (with_reducible assumption) | assumption)
        obtain ⟨ad296, e296, hx296_0⟩ := Kd.at_int (Kd.R_reads' HO_22.out).2.2 x24_1 p296 q296
        cases e296
        replace p296 := eq_true p296
        replace q296 := eq_true q296
        go_wp2
        go_roundg k1
        case measure => have := HK1.out; omega
        case rel => exact ⟨(wrap64 (x24_1 + 1)), (by first | rfl | (simp; done) | (simp [*]; done)), H', ⟨by have := HK1.out; omega⟩, ⟨by (with_reducible repeat (first | apply Kd.R_alloc | apply Kd.R_drewN | apply Kd.R_drew)); exact HO_22.out⟩, ⟨by repeat (first | (with_reducible first | exact HB.out | apply below_alloc | apply pw_below_drewN | apply below_drew1) | exact HB.out)⟩⟩
     ·rw [if_neg c11] at H
      exact absurd H (by simp)
    ·rw [if_neg c10] at H
     exact absurd H (by simp)
   ·rw [if_neg c9] at H
    have c9b0 : decide (x24_1 < (y293.length : Int)) = false := decide_eq_false c9
    clear c9
    by_cases c14 : (wrap64 (-(wrap64 ((wrap64 (a0 * (wrap64 (a2 - a0)))) + (wrap64 (a1 * (wrap64 (a3 - a1)))))))) ≤ 0
    ·rw [if_pos c14] at H
     have c14b0 : decide ((wrap64 (-(wrap64 ((wrap64 (a0 * (wrap64 (a2 - a0)))) + (wrap64 (a1 * (wrap64 (a3 - a1)))))))) ≤ 0) = true := decide_eq_true c14
     clear c14
     obtain rfl := Option.some.inj H
     go_wp2
     go_ret
     exact ⟨by first | rfl | (simp [errW_none, errW_some] <;> rfl) | (simp [*, errW_none, errW_some] <;> rfl), by repeat (first | (with_reducible first | exact HB.out | apply below_alloc | apply pw_below_drewN | apply below_drew1) | exact HB.out)⟩
    ·rw [if_neg c14] at H
     have c14b0 : decide ((wrap64 (-(wrap64 ((wrap64 (a0 * (wrap64 (a2 - a0)))) + (wrap64 (a1 * (wrap64 (a3 - a1)))))))) ≤ 0) = false := decide_eq_false c14
     clear c14
     by_cases c15 : (wrap64 (-(wrap64 ((wrap64 (a0 * (wrap64 (a2 - a0)))) + (wrap64 (a1 * (wrap64 (a3 - a1)))))))) ≥ (wrap64 ((wrap64 ((wrap64 (a2 - a0)) * (wrap64 (a2 - a0)))) + (wrap64 ((wrap64 (a3 - a1)) * (wrap64 (a3 - a1))))))
     ·rw [if_pos c15] at H
      have c15b0 : decide ((wrap64 ((wrap64 ((wrap64 (a2 - a0)) * (wrap64 (a2 - a0)))) + (wrap64 ((wrap64 (a3 - a1)) * (wrap64 (a3 - a1)))))) ≤ (wrap64 (-(wrap64 ((wrap64 (a0 * (wrap64 (a2 - a0)))) + (wrap64 (a1 * (wrap64 (a3 - a1))))))))) = true := decide_eq_true c15
      clear c15
      obtain rfl := Option.some.inj H
      go_wp2
      go_ret
      exact ⟨by first | rfl | (simp [errW_none, errW_some] <;> rfl) | (simp [*, errW_none, errW_some] <;> rfl), by repeat (first | (with_reducible first | exact HB.out | apply below_alloc | apply pw_below_drewN | apply below_drew1) | exact HB.out)⟩
     ·rw [if_neg c15] at H
      have c15b0 : decide ((wrap64 ((wrap64 ((wrap64 (a2 - a0)) * (wrap64 (a2 - a0)))) + (wrap64 ((wrap64 (a3 - a1)) * (wrap64 (a3 - a1)))))) ≤ (wrap64 (-(wrap64 ((wrap64 (a0 * (wrap64 (a2 - a0)))) + (wrap64 (a1 * (wrap64 (a3 - a1))))))))) = false := decide_eq_false c15
      clear c15
      obtain rfl := Option.some.inj H
      go_wp2
      go_ret
      exact ⟨by first | rfl | (simp [errW_none, errW_some] <;> rfl) | (simp [*, errW_none, errW_some] <;> rfl), by repeat (first | (with_reducible first | exact HB.out | apply below_alloc | apply pw_below_drewN | apply below_drew1) | exact HB.out)⟩
end Go.Proofs.Ytblonchpophnkaa.F
