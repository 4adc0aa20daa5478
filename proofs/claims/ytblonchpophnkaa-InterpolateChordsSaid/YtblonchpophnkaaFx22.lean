-- The machine side of a proof, written by a program of the session out of Lean's print of the loaded functions. Lean checks it.
import Derived.Test.YtblonchpophnkaaFx0
import Derived.Test.YtblonchpophnkaaFx2
import Derived.Test.YtblonchpophnkaaFx13
namespace Go.Proofs.Ytblonchpophnkaa.F
open Go.RowKit Go.Proofs.YtblonchpophnkaaW.PrintWords Go.Proofs.YtblonchpophnkaaW.PrintLast Go.Proofs.YtblonchpophnkaaW.PrintMore
attribute [local go_sem] max2_int min2_int max_two min_two max_three min_three max_four min_four   -- for this text's walks alone
set_option linter.unusedVariables false
set_option linter.unusedSimpArgs false
def swarflaw33_InterpolateChords.j0 : Nat → Int → Bool → Option (Bool)
 | 0, _, _ => none
 | k + 1, x0, x9 => if x9 = true then ((swarflaw33_awake.f k).bind fun t224 => (some t224)) else ((interpolate_Chords.f k x0).bind fun t225 => (if x0 ≤ 0 then (some (t225 == 0)) else (if t225 ≥ 1 then (if t225 < 33554432 then (if (wrap64 ((wrap64 (10 * t225)) * t225)) ≥ x0 then (if t225 = 1 then (some true) else (some (decide ((wrap64 ((wrap64 (10 * (wrap64 (t225 - 1)))) * (wrap64 (t225 - 1)))) < x0)))) else (some false)) else (some false)) else (some false))))
def swarflaw33_InterpolateChords.f (k : Nat) (a0 : Int) : Option (Bool) := (swarflaw33_awake.f k).bind fun t223 => (if t223 = true then (swarflaw33_InterpolateChords.j0 k a0 (decide (a0 > 1099511627776))) else (swarflaw33_InterpolateChords.j0 k a0 true))
theorem swarflaw33_InterpolateChords.mono_l : ∀ k, (∀ y0 y1, LeO (swarflaw33_InterpolateChords.j0 k y0 y1) (swarflaw33_InterpolateChords.j0 (k + 1) y0 y1))
 | 0 => fun _ _ r h => by simp [swarflaw33_InterpolateChords.j0] at h
 | k + 1 => by
  have ih0 := swarflaw33_InterpolateChords.mono_l k
  ·intro y0 y1
   unfold swarflaw33_InterpolateChords.j0
   repeat' first
   | (with_reducible exact ih0 _ _)
   | (with_reducible exact interpolate_Chords.mono _ _)
   | (with_reducible exact swarflaw33_awake.mono _)
   | (with_reducible exact LeO.refl _)
   | (with_reducible exact LeO.none _)
   | (with_reducible refine LeO.ite ?_ ?_)
   | (with_reducible refine LeO.bind ?_ (fun _ => ?_))
   | exact ih0 _ _
   | exact interpolate_Chords.mono _ _
   | exact swarflaw33_awake.mono _
   | exact LeO.none _
   | refine LeO.ite ?_ ?_
   | refine LeO.bind ?_ (fun _ => ?_)
theorem swarflaw33_InterpolateChords.mono : ∀ a0 k, LeO (swarflaw33_InterpolateChords.f k a0) (swarflaw33_InterpolateChords.f (k + 1) a0) := by
 intro a0 k
 have ih0 := swarflaw33_InterpolateChords.mono_l k
 unfold swarflaw33_InterpolateChords.f
 repeat' first
   | (with_reducible exact ih0 _ _)
   | (with_reducible exact interpolate_Chords.mono _ _)
   | (with_reducible exact swarflaw33_awake.mono _)
   | (with_reducible exact LeO.refl _)
   | (with_reducible exact LeO.none _)
   | (with_reducible refine LeO.ite ?_ ?_)
   | (with_reducible refine LeO.bind ?_ (fun _ => ?_))
   | exact ih0 _ _
   | exact interpolate_Chords.mono _ _
   | exact swarflaw33_awake.mono _
   | exact LeO.none _
   | refine LeO.ite ?_ ?_
   | refine LeO.bind ?_ (fun _ => ?_)
set_option maxHeartbeats 8000000 in
set_option maxRecDepth 100000 in
theorem swarflaw33_InterpolateChords.calls (k : Nat) (a0 : Int) (r : Bool) (w : World) (h : swarflaw33_InterpolateChords.f k a0 = some r) :
  Calls Try.prog 4 #[.int .i64 a0] w fun e w' => e = .returned (.bool r) ∧ Below w.heap.size w w' := by
 have HB := Aside0.mk (Below.refl w.heap.size w)
 have H : ((swarflaw33_awake.f k).bind fun t223 => (if t223 = true then (swarflaw33_InterpolateChords.j0 k a0 (decide (a0 > 1099511627776))) else (swarflaw33_InterpolateChords.j0 k a0 true))) = some r := h
 clear h
 have HC2 := Aside0.mk H
 clear H
 go_enter Try.func4, Try.ntmps4
 go_upto_region 1 with (fail)
 go_cut [9] (fun v9 wc => ∃ (kq : Nat) (x9_1 : Bool), v9 = .bool x9_1 ∧ Aside0 (swarflaw33_InterpolateChords.j0 kq a0 x9_1 = some r) ∧ Aside0 (kq ≤ k) ∧ Aside0 (Below w.heap.size w wc))
 case first =>
  have H := HC2.out
  clear HC2
  replace H := Option.bind_eq_some_iff.mp H
  obtain ⟨t223, A30, H⟩ := H
  replace H : (if t223 = true then (swarflaw33_InterpolateChords.j0 k a0 (decide (a0 > 1099511627776))) else (swarflaw33_InterpolateChords.j0 k a0 true)) = some r := H
  have A3 := Aside0.mk A30
  clear A30
  by_cases c4 : t223 = true
  ·subst c4
   have H1 : (swarflaw33_InterpolateChords.j0 k a0 (decide (a0 > 1099511627776))) = some r := by rw [if_pos rfl] at H; exact H
   clear H
   have H := H1
   clear H1
   have H' := Aside0.mk H
   clear H
   go_wp2_with (first | ((with_reducible refine gate_callee (f := 11) rfl ?_); refine goesL_ (some 4) rfl rfl Try.func11 (by kernel_rfl) rfl #[] rfl (by (try simp only [List.map_toArray, List.map_cons, List.map_nil]); first | done | rfl | (simp only [List.length_drop, List.length_take]; rfl)) ?_; (with_reducible refine (swarflaw33_awake.calls k  true _ A3.out).mono ?_); rintro e w5 ⟨rfl, hb⟩; refine ⟨_, rfl, ?_⟩; have n0_ := Aside0.mk (below_step (by repeat (first | (with_reducible first | exact HB.out | apply below_alloc | apply pw_below_drewN | apply below_drew1) | exact HB.out)) hb); clear HB; have HB := n0_; clear n0_; (try clear hb); (try clear hb2); (try clear hk); (try clear hi)))
   go_meet
   case rel => exact ⟨_, (decide (a0 > 1099511627776)), (by first | rfl | (simp; done) | (simp [*]; done)), H', ⟨by first | omega | exact Nat.le_refl _⟩, ⟨by repeat (first | (with_reducible first | exact HB.out | apply below_alloc | apply pw_below_drewN | apply below_drew1) | exact HB.out)⟩⟩
  ·replace c4 := Bool.eq_false_iff.mpr c4
   subst c4
   have H1 : (swarflaw33_InterpolateChords.j0 k a0 true) = some r := by rw [if_neg (show ¬ (false = true) by decide)] at H; exact H
   clear H
   have H := H1
   clear H1
   have H' := Aside0.mk H
   clear H
   go_wp2_with (first | ((with_reducible refine gate_callee (f := 11) rfl ?_); refine goesL_ (some 4) rfl rfl Try.func11 (by kernel_rfl) rfl #[] rfl (by (try simp only [List.map_toArray, List.map_cons, List.map_nil]); first | done | rfl | (simp only [List.length_drop, List.length_take]; rfl)) ?_; (with_reducible refine (swarflaw33_awake.calls k  false _ A3.out).mono ?_); rintro e w6 ⟨rfl, hb⟩; refine ⟨_, rfl, ?_⟩; have n0_ := Aside0.mk (below_step (by repeat (first | (with_reducible first | exact HB.out | apply below_alloc | apply pw_below_drewN | apply below_drew1) | exact HB.out)) hb); clear HB; have HB := n0_; clear n0_; (try clear hb); (try clear hb2); (try clear hk); (try clear hi)))
   go_meet
   case rel => exact ⟨_, (true), (by first | rfl | (simp; done) | (simp [*]; done)), H', ⟨by first | omega | exact Nat.le_refl _⟩, ⟨by repeat (first | (with_reducible first | exact HB.out | apply below_alloc | apply pw_below_drewN | apply below_drew1) | exact HB.out)⟩⟩
 case rest =>
  clear HC2
  try clear c1
  try clear p2
  try clear c4
  obtain ⟨kq, x9_1, rfl, HA, HJ1, HB⟩ := hcut
  cases kq with
  | zero => exact absurd HA.out (by simp [swarflaw33_InterpolateChords.j0])
  | succ kj1 =>
   have H := HA.out
   clear HA
   simp only [swarflaw33_InterpolateChords.j0] at H
   by_cases c7 : x9_1 = true
   ·subst c7
    have H1 : ((swarflaw33_awake.f kj1).bind fun t224 => (some t224)) = some r := by rw [if_pos rfl] at H; exact H
    clear H
    have H := H1
    clear H1
    replace H := Option.bind_eq_some_iff.mp H
    obtain ⟨t224, A80, H⟩ := H
    replace H : (some t224) = some r := H
    have A8 := Aside0.mk A80
    clear A80
    obtain rfl := Option.some.inj H
    go_wp2_with (first | ((with_reducible refine gate_callee (f := 11) rfl ?_); refine goesL_ (some 10) rfl rfl Try.func11 (by kernel_rfl) rfl #[] rfl (by (try simp only [List.map_toArray, List.map_cons, List.map_nil]); first | done | rfl | (simp only [List.length_drop, List.length_take]; rfl)) ?_; (with_reducible refine (swarflaw33_awake.calls kj1  t224 _ A8.out).mono ?_); rintro e w9 ⟨rfl, hb⟩; refine ⟨_, rfl, ?_⟩; have n0_ := Aside0.mk (below_step (by repeat (first | (with_reducible first | exact HB.out | apply below_alloc | apply pw_below_drewN | apply below_drew1) | exact HB.out)) hb); clear HB; have HB := n0_; clear n0_; (try clear hb); (try clear hb2); (try clear hk); (try clear hi)))
    go_ret
    exact ⟨by first | rfl | (simp [errW_none, errW_some] <;> rfl) | (simp [*, errW_none, errW_some] <;> rfl), by repeat (first | (with_reducible first | exact HB.out | apply below_alloc | apply pw_below_drewN | apply below_drew1) | exact HB.out)⟩
   ·replace c7 := Bool.eq_false_iff.mpr c7
    subst c7
    have H1 : ((interpolate_Chords.f kj1 a0).bind fun t225 => (if a0 ≤ 0 then (some (t225 == 0)) else (if t225 ≥ 1 then (if t225 < 33554432 then (if (wrap64 ((wrap64 (10 * t225)) * t225)) ≥ a0 then (if t225 = 1 then (some true) else (some (decide ((wrap64 ((wrap64 (10 * (wrap64 (t225 - 1)))) * (wrap64 (t225 - 1)))) < a0)))) else (some false)) else (some false)) else (some false)))) = some r := by rw [if_neg (show ¬ (false = true) by decide)] at H; exact H
    clear H
    have H := H1
    clear H1
    replace H := Option.bind_eq_some_iff.mp H
    obtain ⟨t225, A100, H⟩ := H
    replace H : (if a0 ≤ 0 then (some (t225 == 0)) else (if t225 ≥ 1 then (if t225 < 33554432 then (if (wrap64 ((wrap64 (10 * t225)) * t225)) ≥ a0 then (if t225 = 1 then (some true) else (some (decide ((wrap64 ((wrap64 (10 * (wrap64 (t225 - 1)))) * (wrap64 (t225 - 1)))) < a0)))) else (some false)) else (some false)) else (some false))) = some r := H
    have A10 := Aside0.mk A100
    clear A100
    by_cases c11 : a0 ≤ 0
    ·rw [if_pos c11] at H
     have c11b0 : decide (a0 ≤ 0) = true := decide_eq_true c11
     clear c11
     obtain rfl := Option.some.inj H
     go_wp2_with (first | ((with_reducible refine gate_callee (f := 16) rfl ?_); refine goesL_ (some 12) rfl rfl Try.func16 (by kernel_rfl) rfl #[.int .i64 a0] rfl (by (try simp only [List.map_toArray, List.map_cons, List.map_nil]); first | done | rfl | (simp only [List.length_drop, List.length_take]; rfl)) ?_; (with_reducible refine (interpolate_Chords.calls kj1 a0 t225 _ A10.out).mono ?_); rintro e w' ⟨rfl, ⟨nd, rfl⟩⟩; refine ⟨_, rfl, ?_⟩))
     go_ret
     exact ⟨by first | rfl | (simp [errW_none, errW_some] <;> rfl) | (simp [*, errW_none, errW_some] <;> rfl), by repeat (first | (with_reducible first | exact HB.out | apply below_alloc | apply pw_below_drewN | apply below_drew1) | exact HB.out)⟩
    ·rw [if_neg c11] at H
     have c11b0 : decide (a0 ≤ 0) = false := decide_eq_false c11
     clear c11
     by_cases c12 : t225 ≥ 1
     ·rw [if_pos c12] at H
      have c12b0 : decide (1 ≤ t225) = true := decide_eq_true c12
      clear c12
      by_cases c13 : t225 < 33554432
      ·rw [if_pos c13] at H
       have c13b0 : decide (t225 < 33554432) = true := decide_eq_true c13
       clear c13
       by_cases c14 : (wrap64 ((wrap64 (10 * t225)) * t225)) ≥ a0
       ·rw [if_pos c14] at H
        have c14b0 : decide (a0 ≤ (wrap64 ((wrap64 (10 * t225)) * t225))) = true := decide_eq_true c14
        clear c14
        by_cases c15 : t225 = 1
        ·rw [if_pos c15] at H
         have c15b0 : (t225 == 1) = true := beq_iff_eq.mpr c15
         have c15b1 : (t225 != 1) = false := bne_eq_false_iff_eq.mpr c15
         clear c15
         obtain rfl := Option.some.inj H
         go_wp2_with (first | ((with_reducible refine gate_callee (f := 16) rfl ?_); refine goesL_ (some 12) rfl rfl Try.func16 (by kernel_rfl) rfl #[.int .i64 a0] rfl (by (try simp only [List.map_toArray, List.map_cons, List.map_nil]); first | done | rfl | (simp only [List.length_drop, List.length_take]; rfl)) ?_; (with_reducible refine (interpolate_Chords.calls kj1 a0 t225 _ A10.out).mono ?_); rintro e w' ⟨rfl, ⟨nd, rfl⟩⟩; refine ⟨_, rfl, ?_⟩))
         go_ret
         exact ⟨by first | rfl | (simp [errW_none, errW_some] <;> rfl) | (simp [*, errW_none, errW_some] <;> rfl), by repeat (first | (with_reducible first | exact HB.out | apply below_alloc | apply pw_below_drewN | apply below_drew1) | exact HB.out)⟩
        ·rw [if_neg c15] at H
         have c15b0 : (t225 == 1) = false := beq_eq_false_iff_ne.mpr c15
         have c15b1 : (t225 != 1) = true := bne_iff_ne.mpr c15
         obtain rfl := Option.some.inj H
         go_wp2_with (first | ((with_reducible refine gate_callee (f := 16) rfl ?_); refine goesL_ (some 12) rfl rfl Try.func16 (by kernel_rfl) rfl #[.int .i64 a0] rfl (by (try simp only [List.map_toArray, List.map_cons, List.map_nil]); first | done | rfl | (simp only [List.length_drop, List.length_take]; rfl)) ?_; (with_reducible refine (interpolate_Chords.calls kj1 a0 t225 _ A10.out).mono ?_); rintro e w' ⟨rfl, ⟨nd, rfl⟩⟩; refine ⟨_, rfl, ?_⟩))
         go_ret
         exact ⟨by first | rfl | (simp [errW_none, errW_some] <;> rfl) | (simp [*, errW_none, errW_some] <;> rfl), by repeat (first | (with_reducible first | exact HB.out | apply below_alloc | apply pw_below_drewN | apply below_drew1) | exact HB.out)⟩
       ·rw [if_neg c14] at H
        have c14b0 : decide (a0 ≤ (wrap64 ((wrap64 (10 * t225)) * t225))) = false := decide_eq_false c14
        clear c14
        obtain rfl := Option.some.inj H
        go_wp2_with (first | ((with_reducible refine gate_callee (f := 16) rfl ?_); refine goesL_ (some 12) rfl rfl Try.func16 (by kernel_rfl) rfl #[.int .i64 a0] rfl (by (try simp only [List.map_toArray, List.map_cons, List.map_nil]); first | done | rfl | (simp only [List.length_drop, List.length_take]; rfl)) ?_; (with_reducible refine (interpolate_Chords.calls kj1 a0 t225 _ A10.out).mono ?_); rintro e w' ⟨rfl, ⟨nd, rfl⟩⟩; refine ⟨_, rfl, ?_⟩))
        go_ret
        exact ⟨by first | rfl | (simp [errW_none, errW_some] <;> rfl) | (simp [*, errW_none, errW_some] <;> rfl), by repeat (first | (with_reducible first | exact HB.out | apply below_alloc | apply pw_below_drewN | apply below_drew1) | exact HB.out)⟩
      ·rw [if_neg c13] at H
       have c13b0 : decide (t225 < 33554432) = false := decide_eq_false c13
       clear c13
       obtain rfl := Option.some.inj H
       go_wp2_with (first | ((with_reducible refine gate_callee (f := 16) rfl ?_); refine goesL_ (some 12) rfl rfl Try.func16 (by kernel_rfl) rfl #[.int .i64 a0] rfl (by (try simp only [List.map_toArray, List.map_cons, List.map_nil]); first | done | rfl | (simp only [List.length_drop, List.length_take]; rfl)) ?_; (with_reducible refine (interpolate_Chords.calls kj1 a0 t225 _ A10.out).mono ?_); rintro e w' ⟨rfl, ⟨nd, rfl⟩⟩; refine ⟨_, rfl, ?_⟩))
       go_ret
       exact ⟨by first | rfl | (simp [errW_none, errW_some] <;> rfl) | (simp [*, errW_none, errW_some] <;> rfl), by repeat (first | (with_reducible first | exact HB.out | apply below_alloc | apply pw_below_drewN | apply below_drew1) | exact HB.out)⟩
     ·rw [if_neg c12] at H
      have c12b0 : decide (1 ≤ t225) = false := decide_eq_false c12
      clear c12
      obtain rfl := Option.some.inj H
      go_wp2_with (first | ((with_reducible refine gate_callee (f := 16) rfl ?_); refine goesL_ (some 12) rfl rfl Try.func16 (by kernel_rfl) rfl #[.int .i64 a0] rfl (by (try simp only [List.map_toArray, List.map_cons, List.map_nil]); first | done | rfl | (simp only [List.length_drop, List.length_take]; rfl)) ?_; (with_reducible refine (interpolate_Chords.calls kj1 a0 t225 _ A10.out).mono ?_); rintro e w' ⟨rfl, ⟨nd, rfl⟩⟩; refine ⟨_, rfl, ?_⟩))
      go_ret
      exact ⟨by first | rfl | (simp [errW_none, errW_some] <;> rfl) | (simp [*, errW_none, errW_some] <;> rfl), by repeat (first | (with_reducible first | exact HB.out | apply below_alloc | apply pw_below_drewN | apply below_drew1) | exact HB.out)⟩
/-- THE ONE PURE STATEMENT of swarflaw33_InterpolateChords: yours. -/
def swarflaw33_InterpolateChords.Pure : Prop := ∀ (a0 : Int), (Lit.int .i64 a0).wf = true → ∃ k, swarflaw33_InterpolateChords.f k a0 = some true
theorem swarflaw33_InterpolateChords.walk (P : swarflaw33_InterpolateChords.Pure) (a0 : Int) (w : World) (w0 : (Lit.int .i64 a0).wf = true) :
  Calls Try.prog 4 #[.int .i64 a0] w fun e w' => e = .returned (.bool true) ∧ Below w.heap.size w w' := by
 obtain ⟨k, h⟩ := P a0 w0
 refine (swarflaw33_InterpolateChords.calls k a0 true w h).mono ?_
 rintro e w' ⟨rfl, hd⟩
 exact ⟨rfl, hd⟩
end Go.Proofs.Ytblonchpophnkaa.F
