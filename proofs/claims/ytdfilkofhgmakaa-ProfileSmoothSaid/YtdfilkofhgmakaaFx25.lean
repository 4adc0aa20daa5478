-- The machine side of a proof, written by a program of the session out of Lean's print of the loaded functions. Lean checks it.
import Derived.Test.YtdfilkofhgmakaaFx0
import Derived.Test.YtdfilkofhgmakaaFx7
import Derived.Test.YtdfilkofhgmakaaFx18
import Derived.Test.YtdfilkofhgmakaaFx19
import Derived.Test.YtdfilkofhgmakaaFx24
namespace Go.Proofs.Ytdfilkofhgmakaa.F
open Go.RowKit Go.Proofs.YtdfilkofhgmakaaW.PrintWords Go.Proofs.YtdfilkofhgmakaaW.PrintLast Go.Proofs.YtdfilkofhgmakaaW.PrintMore
attribute [local go_sem] max2_int min2_int max_two min_two max_three min_three max_four min_four   -- for this text's walks alone
set_option linter.unusedVariables false
set_option linter.unusedSimpArgs false
def swarflaw49_ProfileSmooth.j0 : Nat → List Int → Bool → Int → Int → Int → Option (Bool)
 | 0, _, _, _, _, _ => none
 | k + 1, x0, x11, x207000, x207001, x207002 => if x11 = true then ((swarflaw49_awake.f k).bind fun t208 => (some t208)) else ((some (([] : List Int) : List Int)).bind fun y209 => (if y209.length + x0.length < 17592186044416 then ((swarflaw49_theirs.f x207000 x207001 x207002).bind fun bt215 => ((profile_Smooth.f k (y209 ++ x0) bt215.1 bt215.2.1 bt215.2.2).bind fun t218 => ((swarfref49_Smooth.f k x0 x207000 x207001 x207002).bind fun t219 => (some (t218 == t219))))) else (none)))
def swarflaw49_ProfileSmooth.f (k : Nat) (l0 : List Int) (a1_0 : Int) (a1_1 : Int) (a1_2 : Int) : Option (Bool) := (swarflaw49_awake.f k).bind fun t207 => (if t207 = true then (swarflaw49_ProfileSmooth.j0 k l0 (decide ((l0.length : Int) > 60)) a1_0 a1_1 a1_2) else (swarflaw49_ProfileSmooth.j0 k l0 true a1_0 a1_1 a1_2))
theorem swarflaw49_ProfileSmooth.mono_l : ∀ k, (∀ y0 y1 y2 y3 y4, LeO (swarflaw49_ProfileSmooth.j0 k y0 y1 y2 y3 y4) (swarflaw49_ProfileSmooth.j0 (k + 1) y0 y1 y2 y3 y4))
 | 0 => fun _ _ _ _ _ r h => by simp [swarflaw49_ProfileSmooth.j0] at h
 | k + 1 => by
  have ih0 := swarflaw49_ProfileSmooth.mono_l k
  ·intro y0 y1 y2 y3 y4
   unfold swarflaw49_ProfileSmooth.j0
   repeat' first
   | (with_reducible exact ih0 _ _ _ _ _)
   | (with_reducible exact profile_Smooth.mono _ _ _ _ _)
   | (with_reducible exact swarflaw49_awake.mono _)
   | (with_reducible exact swarfref49_Smooth.mono _ _ _ _ _)
   | (with_reducible exact LeO.refl _)
   | (with_reducible exact LeO.none _)
   | (with_reducible refine LeO.ite ?_ ?_)
   | (with_reducible refine LeO.bind ?_ (fun _ => ?_))
   | exact ih0 _ _ _ _ _
   | exact profile_Smooth.mono _ _ _ _ _
   | exact swarflaw49_awake.mono _
   | exact swarfref49_Smooth.mono _ _ _ _ _
   | exact LeO.none _
   | refine LeO.ite ?_ ?_
   | refine LeO.bind ?_ (fun _ => ?_)
theorem swarflaw49_ProfileSmooth.mono : ∀ a0 a1 a2 a3 k, LeO (swarflaw49_ProfileSmooth.f k a0 a1 a2 a3) (swarflaw49_ProfileSmooth.f (k + 1) a0 a1 a2 a3) := by
 intro a0 a1 a2 a3 k
 have ih0 := swarflaw49_ProfileSmooth.mono_l k
 unfold swarflaw49_ProfileSmooth.f
 repeat' first
   | (with_reducible exact ih0 _ _ _ _ _)
   | (with_reducible exact profile_Smooth.mono _ _ _ _ _)
   | (with_reducible exact swarflaw49_awake.mono _)
   | (with_reducible exact swarfref49_Smooth.mono _ _ _ _ _)
   | (with_reducible exact LeO.refl _)
   | (with_reducible exact LeO.none _)
   | (with_reducible refine LeO.ite ?_ ?_)
   | (with_reducible refine LeO.bind ?_ (fun _ => ?_))
   | exact ih0 _ _ _ _ _
   | exact profile_Smooth.mono _ _ _ _ _
   | exact swarflaw49_awake.mono _
   | exact swarfref49_Smooth.mono _ _ _ _ _
   | exact LeO.none _
   | refine LeO.ite ?_ ?_
   | refine LeO.bind ?_ (fun _ => ?_)
def swarflaw49_ProfileSmooth.T3 : Bool × List (List Nat × List Nat) := (true, [([], []), ([], []), ([0, 1], [0, 1]), ([], []), ([3, 2], [3]), ([2, 4, 4], [2, 4]), ([], []), ([], []), ([6, 7, 5], [6, 7]), ([5, 8], [5, 8]), ([9, 8, 0, 1, 2, 3, 4, 5, 6, 7, 8, 9], [9])])
def swarflaw49_ProfileSmooth.B3 : List Nat := [0, 0, 3, 0, 15, 31, 0, 0, 255, 511, 1023]
theorem swarflaw49_ProfileSmooth.tab3 : rtab .any (opsOf Try.f4 3) = swarflaw49_ProfileSmooth.T3 := by kernel_rfl
theorem swarflaw49_ProfileSmooth.bits3 : waitsOk swarflaw49_ProfileSmooth.T3.2 swarflaw49_ProfileSmooth.B3 = true := by kernel_rfl
set_option maxHeartbeats 8000000 in
set_option maxRecDepth 100000 in
theorem swarflaw49_ProfileSmooth.calls (k : Nat) (A0 : Option Addr) (c0 : Nat) (l0 : List Int) (a1_0 : Int) (a1_1 : Int) (a1_2 : Int) (r : Bool) (w : World) (hr0 : Kd.C (Kd.int .i64) w A0 l0.length l0) (hc0 : l0.length ≤ c0) (h : swarflaw49_ProfileSmooth.f k l0 a1_0 a1_1 a1_2 = some r) :
  Calls Try.prog 4 #[.slice A0 l0.length c0, .agg #[.int .i64 a1_0, .int .i64 a1_1, .int .i64 a1_2]] w fun e w' => e = .returned (.bool r) ∧ Below w.heap.size w w' := by
 have hu23 := Try.underlying23
 have HR0 := Aside0.mk hr0
 have HC0 := Aside0.mk hc0
 clear hr0 hc0
 have HB := Aside0.mk (Below.refl w.heap.size w)
 have H : ((swarflaw49_awake.f k).bind fun t207 => (if t207 = true then (swarflaw49_ProfileSmooth.j0 k l0 (decide ((l0.length : Int) > 60)) a1_0 a1_1 a1_2) else (swarflaw49_ProfileSmooth.j0 k l0 true a1_0 a1_1 a1_2))) = some r := h
 clear h
 have HC3 := Aside0.mk H
 clear H
 go_enter Try.func4, Try.ntmps4
 go_upto_region 1 with (first | ((with_reducible refine gate_dst (N := 3) rfl ?_); (try (refine gate_guard (by rfl) ?_; dsimp only)); refine box_event ?hg (N := 3) ?hd (cs := #[.int .i64 a1_0, .int .i64 a1_1, .int .i64 a1_2]) (t := 23) ?hr ?_; (case hd => rfl); (case hg => rfl); (case hr => first | (go_simp; done) | (go_simp; rfl)); intro gb206 hg w4 hbox hb; have n0_ := Aside0.mk (below_step (by repeat (first | (with_reducible first | exact HB.out | apply below_alloc | apply pw_below_drewN | apply below_drew1) | exact HB.out)) hb); have n1_ := Aside0.mk (hbox); have n2_ := Aside0.mk ((by rw [hg]; exact (below_size (by repeat (first | (with_reducible first | exact HB.out | apply below_alloc | apply pw_below_drewN | apply below_drew1) | exact HB.out))) : w.heap.size ≤ gb206)); have n3_ := Aside0.mk ((by rw [hg]; exact (below_size (by repeat (first | (with_reducible first | exact HB.out | apply below_alloc | apply pw_below_drewN | apply below_drew1) | exact HB.out))) : w.heap.size ≤ gb206)); clear HB; have HB := n0_; have BK206 := n1_; have GW206 := n2_; have GE206 := n3_; clear n0_ n1_ n2_ n3_; clear hb hbox hg))
 (try simp only [Act.put, List.setIfInBounds_toArray, List.set_cons_zero, List.set_cons_succ])
 go_cut [11] (fun v11 wc => ∃ (kq : Nat) (x11_2 : Bool), v11 = .bool x11_2 ∧ Aside0 (swarflaw49_ProfileSmooth.j0 kq l0 x11_2 a1_0 a1_1 a1_2 = some r) ∧ Aside0 (kq ≤ k) ∧ Aside0 (wc.heap[gb206]? = some (.cells #[.int .i64 a1_0, .int .i64 a1_1, .int .i64 a1_2] 23 (0, 0))) ∧ Aside0 (Below w.heap.size w wc))
 case first =>
  have H := HC3.out
  clear HC3
  replace H := Option.bind_eq_some_iff.mp H
  obtain ⟨t207, A50, H⟩ := H
  replace H : (if t207 = true then (swarflaw49_ProfileSmooth.j0 k l0 (decide ((l0.length : Int) > 60)) a1_0 a1_1 a1_2) else (swarflaw49_ProfileSmooth.j0 k l0 true a1_0 a1_1 a1_2)) = some r := H
  have A5 := Aside0.mk A50
  clear A50
  by_cases c6 : t207 = true
  ·subst c6
   have H1 : (swarflaw49_ProfileSmooth.j0 k l0 (decide ((l0.length : Int) > 60)) a1_0 a1_1 a1_2) = some r := by rw [if_pos rfl] at H; exact H
   clear H
   have H := H1
   clear H1
   have H' := Aside0.mk H
   clear H
   go_wp2_with (first | ((with_reducible refine gate_callee (f := 11) rfl ?_); refine goesL_ (some 5) rfl rfl Try.func11 (by kernel_rfl) rfl #[] rfl (by (try simp only [List.map_toArray, List.map_cons, List.map_nil]); first | done | rfl | (simp only [List.length_drop, List.length_take]; rfl)) ?_; (with_reducible refine (swarflaw49_awake.calls k  true _ A5.out).mono ?_); rintro e w7 ⟨rfl, hb⟩; refine ⟨_, rfl, ?_⟩; have n0_ := Aside0.mk (blk_below (g := gb206) (o := .cells #[.int .i64 a1_0, .int .i64 a1_1, .int .i64 a1_2] 23 (0, 0)) (by (with_reducible repeat (first | refine blk_drewN ?_ _ | refine blk_drew ?_ | refine blk_alloc ?_ _)); exact BK206.out) hb); have n1_ := Aside0.mk (below_step (by repeat (first | (with_reducible first | exact HB.out | apply below_alloc | apply pw_below_drewN | apply below_drew1 | refine below_set ?_ GE206.out) | exact HB.out)) hb); clear BK206; clear HB; have BK206 := n0_; have HB := n1_; clear n0_ n1_; (try clear hb); (try clear hb2); (try clear hk); (try clear hi)))
   go_meet
   case rel => exact ⟨_, (decide ((l0.length : Int) > 60)), (by first | rfl | (simp; done) | (simp [*]; done)), H', ⟨by first | omega | exact Nat.le_refl _⟩, ⟨by (with_reducible repeat (first | refine blk_drewN ?_ _ | refine blk_drew ?_ | refine blk_alloc ?_ _)); exact BK206.out⟩, ⟨by repeat (first | (with_reducible first | exact HB.out | apply below_alloc | apply pw_below_drewN | apply below_drew1 | refine below_set ?_ GE206.out) | exact HB.out)⟩⟩
  ·replace c6 := Bool.eq_false_iff.mpr c6
   subst c6
   have H1 : (swarflaw49_ProfileSmooth.j0 k l0 true a1_0 a1_1 a1_2) = some r := by rw [if_neg (show ¬ (false = true) by decide)] at H; exact H
   clear H
   have H := H1
   clear H1
   have H' := Aside0.mk H
   clear H
   go_wp2_with (first | ((with_reducible refine gate_callee (f := 11) rfl ?_); refine goesL_ (some 5) rfl rfl Try.func11 (by kernel_rfl) rfl #[] rfl (by (try simp only [List.map_toArray, List.map_cons, List.map_nil]); first | done | rfl | (simp only [List.length_drop, List.length_take]; rfl)) ?_; (with_reducible refine (swarflaw49_awake.calls k  false _ A5.out).mono ?_); rintro e w8 ⟨rfl, hb⟩; refine ⟨_, rfl, ?_⟩; have n0_ := Aside0.mk (blk_below (g := gb206) (o := .cells #[.int .i64 a1_0, .int .i64 a1_1, .int .i64 a1_2] 23 (0, 0)) (by (with_reducible repeat (first | refine blk_drewN ?_ _ | refine blk_drew ?_ | refine blk_alloc ?_ _)); exact BK206.out) hb); have n1_ := Aside0.mk (below_step (by repeat (first | (with_reducible first | exact HB.out | apply below_alloc | apply pw_below_drewN | apply below_drew1 | refine below_set ?_ GE206.out) | exact HB.out)) hb); clear BK206; clear HB; have BK206 := n0_; have HB := n1_; clear n0_ n1_; (try clear hb); (try clear hb2); (try clear hk); (try clear hi)))
   go_meet
   case rel => exact ⟨_, (true), (by first | rfl | (simp; done) | (simp [*]; done)), H', ⟨by first | omega | exact Nat.le_refl _⟩, ⟨by (with_reducible repeat (first | refine blk_drewN ?_ _ | refine blk_drew ?_ | refine blk_alloc ?_ _)); exact BK206.out⟩, ⟨by repeat (first | (with_reducible first | exact HB.out | apply below_alloc | apply pw_below_drewN | apply below_drew1 | refine below_set ?_ GE206.out) | exact HB.out)⟩⟩
 case rest =>
  clear HC3
  try clear c1
  try clear p2
  try clear c4
  try clear c6
  obtain ⟨kq, x11_2, rfl, HA, HJ2, BK206, HB⟩ := hcut
  cases kq with
  | zero => exact absurd HA.out (by simp [swarflaw49_ProfileSmooth.j0])
  | succ kj2 =>
   have H := HA.out
   clear HA
   simp only [swarflaw49_ProfileSmooth.j0] at H
   by_cases c9 : x11_2 = true
   ·subst c9
    have H1 : ((swarflaw49_awake.f kj2).bind fun t208 => (some t208)) = some r := by rw [if_pos rfl] at H; exact H
    clear H
    have H := H1
    clear H1
    replace H := Option.bind_eq_some_iff.mp H
    obtain ⟨t208, A100, H⟩ := H
    replace H : (some t208) = some r := H
    have A10 := Aside0.mk A100
    clear A100
    obtain rfl := Option.some.inj H
    go_wp2_with (first | ((with_reducible refine gate_callee (f := 11) rfl ?_); refine goesL_ (some 12) rfl rfl Try.func11 (by kernel_rfl) rfl #[] rfl (by (try simp only [List.map_toArray, List.map_cons, List.map_nil]); first | done | rfl | (simp only [List.length_drop, List.length_take]; rfl)) ?_; (with_reducible refine (swarflaw49_awake.calls kj2  t208 _ A10.out).mono ?_); rintro e w11 ⟨rfl, hb⟩; refine ⟨_, rfl, ?_⟩; have n0_ := Aside0.mk (blk_below (g := gb206) (o := .cells #[.int .i64 a1_0, .int .i64 a1_1, .int .i64 a1_2] 23 (0, 0)) (by (with_reducible repeat (first | refine blk_drewN ?_ _ | refine blk_drew ?_ | refine blk_alloc ?_ _)); exact BK206.out) hb); have n1_ := Aside0.mk (below_step (by repeat (first | (with_reducible first | exact HB.out | apply below_alloc | apply pw_below_drewN | apply below_drew1 | refine below_set ?_ GE206.out) | exact HB.out)) hb); clear BK206; clear HB; have BK206 := n0_; have HB := n1_; clear n0_ n1_; (try clear hb); (try clear hb2); (try clear hk); (try clear hi)))
    go_ret
    exact ⟨by first | rfl | (simp [errW_none, errW_some] <;> rfl) | (simp [*, errW_none, errW_some] <;> rfl), by repeat (first | (with_reducible first | exact HB.out | apply below_alloc | apply pw_below_drewN | apply below_drew1 | refine below_set ?_ GE206.out) | exact HB.out)⟩
   ·replace c9 := Bool.eq_false_iff.mpr c9
    subst c9
    have H1 : ((some (([] : List Int) : List Int)).bind fun y209 => (if y209.length + l0.length < 17592186044416 then ((swarflaw49_theirs.f a1_0 a1_1 a1_2).bind fun bt215 => ((profile_Smooth.f kj2 (y209 ++ l0) bt215.1 bt215.2.1 bt215.2.2).bind fun t218 => ((swarfref49_Smooth.f kj2 l0 a1_0 a1_1 a1_2).bind fun t219 => (some (t218 == t219))))) else (none))) = some r := by rw [if_neg (show ¬ (false = true) by decide)] at H; exact H
    clear H
    have H := H1
    clear H1
    obtain ⟨y209, hy209⟩ : ∃ y_ : List Int, y_ = (([] : List Int)) := ⟨_, rfl⟩
    replace H : (if y209.length + l0.length < 17592186044416 then ((swarflaw49_theirs.f a1_0 a1_1 a1_2).bind fun bt215 => ((profile_Smooth.f kj2 (y209 ++ l0) bt215.1 bt215.2.1 bt215.2.2).bind fun t218 => ((swarfref49_Smooth.f kj2 l0 a1_0 a1_1 a1_2).bind fun t219 => (some (t218 == t219))))) else (none)) = some r := by first | (rw [hy209]; with_reducible exact H) | (have H2_ := (Option.bind_some _ _).symm.trans H; rw [hy209]; with_reducible exact H2_) | (have H2_ := (Option.bind_some _ _).symm.trans H; with_reducible exact H2_) | with_reducible exact H | (rw [hy209]; exact H) | exact H
    have Ny209 := Aside0.mk hy209
    clear hy209
    by_cases c12 : y209.length + l0.length < 17592186044416
    ·rw [if_pos c12] at H
     have LMc12 := Aside0.mk c12
     clear c12
     obtain ⟨y212, hy212⟩ : ∃ y_ : List Int, y_ = (y209 ++ l0) := ⟨_, rfl⟩
     replace H : ((swarflaw49_theirs.f a1_0 a1_1 a1_2).bind fun bt215 => ((profile_Smooth.f kj2 y212 bt215.1 bt215.2.1 bt215.2.2).bind fun t218 => ((swarfref49_Smooth.f kj2 l0 a1_0 a1_1 a1_2).bind fun t219 => (some (t218 == t219))))) = some r := by first | (rw [hy212]; with_reducible exact H) | (have H2_ := (Option.bind_some _ _).symm.trans H; rw [hy212]; with_reducible exact H2_) | (have H2_ := (Option.bind_some _ _).symm.trans H; with_reducible exact H2_) | with_reducible exact H | (rw [hy212]; exact H) | exact H
     have Ny212 := Aside0.mk hy212
     clear hy212
     replace H := Option.bind_eq_some_iff.mp H
     obtain ⟨⟨t215, t216, t217⟩, A130, H⟩ := H
     replace H : ((profile_Smooth.f kj2 y212 t215 t216 t217).bind fun t218 => ((swarfref49_Smooth.f kj2 l0 a1_0 a1_1 a1_2).bind fun t219 => (some (t218 == t219)))) = some r := H
     have A13 := Aside0.mk A130
     clear A130
     replace H := Option.bind_eq_some_iff.mp H
     obtain ⟨t218, A140, H⟩ := H
     replace H : ((swarfref49_Smooth.f kj2 l0 a1_0 a1_1 a1_2).bind fun t219 => (some (t218 == t219))) = some r := H
     have A14 := Aside0.mk A140
     clear A140
     replace H := Option.bind_eq_some_iff.mp H
     obtain ⟨t219, A150, H⟩ := H
     replace H : (some (t218 == t219)) = some r := H
     have A15 := Aside0.mk A150
     clear A150
     obtain rfl := Option.some.inj H
     try go_wp2
     have n0_ := Aside0.mk (blk_drew BK206.out)
     have n1_ := Aside0.mk (below_drew1 HB.out)
     clear BK206
     clear HB
     have BK206 := n0_
     have HB := n1_
     clear n0_ n1_
     refine start_ (n := 11) (S := fun w' => w'.cell? ⟨gb206, 0, none⟩ = some (.int .i64 a1_0) ∧ w'.cell? ⟨gb206, 1, none⟩ = some (.int .i64 a1_1) ∧ w'.cell? ⟨gb206, 2, none⟩ = some (.int .i64 a1_2)) (ds := []) #[false, false, false, false, false, false, false, false, false, false, false] (by kernel_rfl) rfl rfl ⟨(blk_cell BK206.out 0).trans rfl, (blk_cell BK206.out 1).trans rfl, (blk_cell BK206.out 2).trans rfl⟩ (fun hHeld => ?_); refine with_tabW swarflaw49_ProfileSmooth.tab3 swarflaw49_ProfileSmooth.bits3 (fun HT_ HW_ => ?_)
     generalize wc.drew = w16 at BK206 HB hHeld ⊢
     refine pure_ (i := 1) (N := some 14) (v := ?_) (a' := ?_) #[false, true, false, false, false, false, false, false, false, false, false] rfl rfl (any_of HT_.out (by kernel_rfl)) (fun _ _ _ h => h) (Or.inl ⟨by rfl, ?_⟩) ?_ ?_
     rotate_left
     ·intro w'
      go_simp
      with_reducible rfl
     rotate_left
     ·simp only [Act.put, List.setIfInBounds_toArray, List.set_cons_zero, List.set_cons_succ, i64_w, i32_w]
      rfl
     refine pure_ (i := 6) (N := some 19) (v := ?_) (a' := ?_) #[false, true, false, false, false, false, true, false, false, false, false] rfl rfl (any_of HT_.out (by kernel_rfl)) (fun _ _ _ h => h) (Or.inl ⟨by rfl, ?_⟩) ?_ ?_
     rotate_left
     ·intro w'
      go_simp
      with_reducible rfl
     rotate_left
     ·simp only [Act.put, List.setIfInBounds_toArray, List.set_cons_zero, List.set_cons_succ, i64_w, i32_w]
      rfl
     refine take_ (i := 3) (N := some 16) (v := ?_) (a' := ?_) #[false, true, false, true, false, false, true, false, false, false, false] rfl rfl (take_ofW HT_.out HW_.out (by kernel_rfl)) (fun _ _ _ h => h) (Or.inl ⟨by rfl, ?_⟩) hHeld ?_ ?_
     rotate_left
     ·rintro w' ⟨s0, s1, s2⟩
      go_simp
      with_reducible rfl
     rotate_left
     ·simp only [Act.put, List.setIfInBounds_toArray, List.set_cons_zero, List.set_cons_succ, i64_w, i32_w]
      rfl
     refine take_ (i := 7) (N := some 20) (v := ?_) (a' := ?_) #[false, true, false, true, false, false, true, true, false, false, false] rfl rfl (take_ofW HT_.out HW_.out (by kernel_rfl)) (fun _ _ _ h => h) (Or.inl ⟨by rfl, ?_⟩) hHeld ?_ ?_
     rotate_left
     ·rintro w' ⟨s0, s1, s2⟩
      go_simp
      with_reducible rfl
     rotate_left
     ·simp only [Act.put, List.setIfInBounds_toArray, List.set_cons_zero, List.set_cons_succ, i64_w, i32_w]
      rfl
     refine one_ (i := 0) (N := some 13) #[true, true, false, true, false, false, true, true, false, false, false] rfl rfl (one_of HT_.out (by kernel_rfl)) (by decide) (fun K hK => ?_)
     refine Kd.R_lit_step (Kd.int .i64) _ 2 ?hg (N := 13) ?hd (xs := ([] : List Int)) (inner := []) (ok := fun _ => True) (okp := fun _ => True) ?hr ?hp (fun _ hk => hk) trivial (Below.refl _ _) (Nat.le_refl _) (by simp) ?_; (case hd => rfl); (case hg => rfl); (case hr => first | (go_simp; done) | (go_simp; rfl)); (case hp => exact (Reps.none _ _))
     intro v210 w17 ho18 hb hg_ hnew_
     clear hg_ hnew_
     (first | rw [← Ny209.out] at ho18 | (simp only [Int.reduceToNat] at ho18; rw [← Ny209.out] at ho18))
     have n0_ := Aside0.mk (Kd.R_lower ho18 (below_size (by repeat (first | (with_reducible first | exact HB.out | apply below_alloc | apply pw_below_drewN | apply below_drew1 | refine below_set ?_ GE206.out) | exact HB.out))))
     have n1_ := Aside0.mk (blk_below (g := gb206) (o := .cells #[.int .i64 a1_0, .int .i64 a1_1, .int .i64 a1_2] 23 (0, 0)) (by (with_reducible repeat (first | refine blk_drewN ?_ _ | refine blk_drew ?_ | refine blk_alloc ?_ _)); exact BK206.out) hb)
     have n2_ := Aside0.mk (below_step (by repeat (first | (with_reducible first | exact HB.out | apply below_alloc | apply pw_below_drewN | apply below_drew1 | refine below_set ?_ GE206.out) | exact HB.out)) hb)
     clear BK206
     clear HB
     have HO211 := n0_
     have BK206 := n1_
     have HB := n2_
     clear n0_ n1_ n2_
     clear hb ho18
     refine hK.out _ _ ⟨(blk_cell BK206.out 0).trans rfl, (blk_cell BK206.out 1).trans rfl, (blk_cell BK206.out 2).trans rfl⟩ (fun hHeld => ?_)
     clear hK K
     refine norm_ (a' := ?_) ?_ ?_
     rotate_left
     ·show Act.put _ (some 13) _ = _
      simp only [Act.put, List.setIfInBounds_toArray, List.set_cons_zero, List.set_cons_succ, i64_w, i32_w]
      rfl
     refine one_ (i := 2) (N := some 15) #[true, true, true, true, false, false, true, true, false, false, false] rfl rfl (one_of HT_.out (by kernel_rfl)) (by decide) (fun K hK => ?_)
     refine Kd.R_append_rows_step (Kd.int .i64) (w0 := w) w.heap.size (by rfl) (.tmp 13) (.tmp 14) 34 2 (.int .i64 0) 8 rfl Try.underlying34 info2 rfl (by decide) (by omega) v210 y209 l0 _ _ _ (fun _ => True) (fun _ => False) rfl rfl ?aO ?aR (fun _ _ h => h) (fun _ h => h.elim) ?aF ?aB ?aS ?aL ?_
     (case aR => repeat (first | exact (Kd.C_below HR0.out HB.out) | (with_reducible refine Kd.C_alloc ?_ _) | (with_reducible refine Kd.C_drewN ?_ _) | (with_reducible refine Kd.C_drew ?_)))
     (case aB => exact (by repeat (first | (with_reducible first | exact HB.out | apply below_alloc | apply pw_below_drewN | apply below_drew1 | refine below_set ?_ GE206.out) | exact HB.out)))
     (case aF => exact (fun _ _ => trivial))
     (case aO => exact (by (with_reducible repeat (first | apply Kd.R_alloc | apply Kd.R_drewN | apply Kd.R_drew)); exact HO211.out))
     (case aS => exact (below_size (by repeat (first | (with_reducible first | exact HB.out | apply below_alloc | apply pw_below_drewN | apply below_drew1 | refine below_set ?_ GE206.out) | exact HB.out))))
     (case aL => have := LMc12.out; omega)
     intro v213 w19 ho hb hg hat
     rw [← Ny212.out] at ho
     have n0_ := Aside0.mk (blk_grown (g := gb206) (o := .cells #[.int .i64 a1_0, .int .i64 a1_1, .int .i64 a1_2] 23 (0, 0)) (by (with_reducible repeat (first | refine blk_drewN ?_ _ | refine blk_drew ?_ | refine blk_alloc ?_ _)); exact BK206.out) hg (Kd.R_ne HO211.out BK206.out (by decide)))
     have n1_ := Aside0.mk (hb)
     have n2_ := Aside0.mk (ho)
     clear BK206
     clear HB
     clear HO211
     have BK206 := n0_
     have HB := n1_
     have HO214 := n2_
     clear n0_ n1_ n2_
     clear ho hb hg hat
     refine hK.out _ _ ⟨(blk_cell BK206.out 0).trans rfl, (blk_cell BK206.out 1).trans rfl, (blk_cell BK206.out 2).trans rfl⟩ (fun hHeld => ?_)
     clear hK K
     refine norm_ (a' := ?_) ?_ ?_
     rotate_left
     ·show Act.put _ (some 15) _ = _
      simp only [Act.put, List.setIfInBounds_toArray, List.set_cons_zero, List.set_cons_succ, i64_w, i32_w]
      rfl
     refine one_ (i := 4) (N := some 17) #[true, true, true, true, true, false, true, true, false, false, false] rfl rfl (one_of HT_.out (by kernel_rfl)) (by decide) (fun K hK => ?_)
     refine goes_ Try.func13 (by kernel_rfl) rfl #[.agg #[.int .i64 a1_0, .int .i64 a1_1, .int .i64 a1_2]] (by rfl) rfl rfl (by (try simp only [List.map_toArray, List.map_cons, List.map_nil]); first | done | rfl | (simp only [List.length_drop, List.length_take]; rfl)) ?_
     with_reducible refine (swarflaw49_theirs.calls a1_0 a1_1 a1_2 t215 t216 t217 _ A13.out).mono ?_
     rintro e w20 ⟨rfl, hb⟩
     refine ⟨_, rfl, ?_⟩
     have n0_ := Aside0.mk (Kd.R_below (by (with_reducible repeat (first | apply Kd.R_alloc | apply Kd.R_drewN | apply Kd.R_drew)); exact HO214.out) hb)
     have n1_ := Aside0.mk (blk_below (g := gb206) (o := .cells #[.int .i64 a1_0, .int .i64 a1_1, .int .i64 a1_2] 23 (0, 0)) (by (with_reducible repeat (first | refine blk_drewN ?_ _ | refine blk_drew ?_ | refine blk_alloc ?_ _)); exact BK206.out) hb)
     have n2_ := Aside0.mk (below_step (by repeat (first | (with_reducible first | exact HB.out | apply below_alloc | apply pw_below_drewN | apply below_drew1 | refine below_set ?_ GE206.out) | exact HB.out)) hb)
     clear HO214
     clear BK206
     clear HB
     have HO214 := n0_
     have BK206 := n1_
     have HB := n2_
     clear n0_ n1_ n2_
     (try clear hb)
     (try clear hb2)
     (try clear hk)
     (try clear hi)
     obtain ⟨Ao21, co21, eo21⟩ := Kd.R_slice HO214.out
     (first | subst eo21 | (injection eo21 with f1_ f2_ f3_; have f4_ := f1_.symm; have f5_ := f3_.symm; clear f1_ f2_ f3_; subst f4_; subst f5_))
     refine hK.out _ _ ⟨(blk_cell BK206.out 0).trans rfl, (blk_cell BK206.out 1).trans rfl, (blk_cell BK206.out 2).trans rfl⟩ (fun hHeld => ?_)
     clear hK K
     refine norm_ (a' := ?_) ?_ ?_
     rotate_left
     ·show Act.put _ (some 17) _ = _
      simp only [Act.put, List.setIfInBounds_toArray, List.set_cons_zero, List.set_cons_succ, i64_w, i32_w]
      rfl
     refine one_ (i := 5) (N := some 18) #[true, true, true, true, true, true, true, true, false, false, false] rfl rfl (one_of HT_.out (by kernel_rfl)) (by decide) (fun K hK => ?_)
     refine goes_ Try.func17 (by kernel_rfl) rfl #[.slice Ao21 y212.length co21, .agg #[.int .i64 t215, .int .i64 t216, .int .i64 t217]] (by rfl) rfl rfl (by (try simp only [List.map_toArray, List.map_cons, List.map_nil]); first | done | rfl | (simp only [List.length_drop, List.length_take]; rfl)) ?_
     with_reducible refine (profile_Smooth.calls kj2 _ _ y212 t215 t216 t217 t218 _ ?side1 ?side2 A14.out).mono ?_
     (case side1 => repeat (first | exact (Kd.R_reads' HO214.out).2.2 | (with_reducible refine Kd.C_alloc ?_ _) | (with_reducible refine Kd.C_drewN ?_ _) | (with_reducible refine Kd.C_drew ?_)))
     (case side2 => exact (Kd.R_reads' HO214.out).2.1)
     rintro e w22 ⟨rfl, hb⟩
     refine ⟨_, rfl, ?_⟩
     have n0_ := Aside0.mk (Kd.R_below (by (with_reducible repeat (first | apply Kd.R_alloc | apply Kd.R_drewN | apply Kd.R_drew)); exact HO214.out) hb)
     have n1_ := Aside0.mk (blk_below (g := gb206) (o := .cells #[.int .i64 a1_0, .int .i64 a1_1, .int .i64 a1_2] 23 (0, 0)) (by (with_reducible repeat (first | refine blk_drewN ?_ _ | refine blk_drew ?_ | refine blk_alloc ?_ _)); exact BK206.out) hb)
     have n2_ := Aside0.mk (below_step (by repeat (first | (with_reducible first | exact HB.out | apply below_alloc | apply pw_below_drewN | apply below_drew1 | refine below_set ?_ GE206.out) | exact HB.out)) hb)
     clear HO214
     clear BK206
     clear HB
     have HO214 := n0_
     have BK206 := n1_
     have HB := n2_
     clear n0_ n1_ n2_
     (try clear hb)
     (try clear hb2)
     (try clear hk)
     (try clear hi)
     refine hK.out _ _ ⟨(blk_cell BK206.out 0).trans rfl, (blk_cell BK206.out 1).trans rfl, (blk_cell BK206.out 2).trans rfl⟩ (fun hHeld => ?_)
     clear hK K
     refine norm_ (a' := ?_) ?_ ?_
     rotate_left
     ·show Act.put _ (some 18) _ = _
      simp only [Act.put, List.setIfInBounds_toArray, List.set_cons_zero, List.set_cons_succ, i64_w, i32_w]
      rfl
     refine one_ (i := 8) (N := some 21) #[true, true, true, true, true, true, true, true, true, false, false] rfl rfl (one_of HT_.out (by kernel_rfl)) (by decide) (fun K hK => ?_)
     refine goes_ Try.func18 (by kernel_rfl) rfl #[.slice A0 l0.length c0, .agg #[.int .i64 a1_0, .int .i64 a1_1, .int .i64 a1_2]] (by rfl) rfl rfl (by (try simp only [List.map_toArray, List.map_cons, List.map_nil]); first | done | rfl | (simp only [List.length_drop, List.length_take]; rfl)) ?_
     with_reducible refine (swarfref49_Smooth.calls kj2 _ _ l0 a1_0 a1_1 a1_2 t219 _ ?side1 ?side2 A15.out).mono ?_
     (case side1 => repeat (first | exact (Kd.C_below HR0.out HB.out) | (with_reducible refine Kd.C_alloc ?_ _) | (with_reducible refine Kd.C_drewN ?_ _) | (with_reducible refine Kd.C_drew ?_)))
     (case side2 => exact HC0.out)
     rintro e w23 ⟨rfl, hb⟩
     refine ⟨_, rfl, ?_⟩
     have n0_ := Aside0.mk (Kd.R_below (by (with_reducible repeat (first | apply Kd.R_alloc | apply Kd.R_drewN | apply Kd.R_drew)); exact HO214.out) hb)
     have n1_ := Aside0.mk (blk_below (g := gb206) (o := .cells #[.int .i64 a1_0, .int .i64 a1_1, .int .i64 a1_2] 23 (0, 0)) (by (with_reducible repeat (first | refine blk_drewN ?_ _ | refine blk_drew ?_ | refine blk_alloc ?_ _)); exact BK206.out) hb)
     have n2_ := Aside0.mk (below_step (by repeat (first | (with_reducible first | exact HB.out | apply below_alloc | apply pw_below_drewN | apply below_drew1 | refine below_set ?_ GE206.out) | exact HB.out)) hb)
     clear HO214
     clear BK206
     clear HB
     have HO214 := n0_
     have BK206 := n1_
     have HB := n2_
     clear n0_ n1_ n2_
     (try clear hb)
     (try clear hb2)
     (try clear hk)
     (try clear hi)
     refine hK.out _ _ ⟨(blk_cell BK206.out 0).trans rfl, (blk_cell BK206.out 1).trans rfl, (blk_cell BK206.out 2).trans rfl⟩ (fun hHeld => ?_)
     clear hK K
     refine norm_ (a' := ?_) ?_ ?_
     rotate_left
     ·show Act.put _ (some 21) _ = _
      simp only [Act.put, List.setIfInBounds_toArray, List.set_cons_zero, List.set_cons_succ, i64_w, i32_w]
      rfl
     refine pure_ (i := 9) (N := some 22) (v := ?_) (a' := ?_) #[true, true, true, true, true, true, true, true, true, true, false] rfl rfl (any_of HT_.out (by kernel_rfl)) (fun _ _ _ h => h) (Or.inl ⟨by rfl, ?_⟩) ?_ ?_
     rotate_left
     ·intro w'
      go_simp
      with_reducible rfl
     rotate_left
     ·simp only [Act.put, List.setIfInBounds_toArray, List.set_cons_zero, List.set_cons_succ, i64_w, i32_w]
      rfl
     refine pure_ (i := 10) (N := some 4) (v := ?_) (a' := ?_) #[true, true, true, true, true, true, true, true, true, true, true] rfl rfl (any_of HT_.out (by kernel_rfl)) (fun _ _ _ h => h) (Or.inl ⟨by rfl, ?_⟩) ?_ ?_
     rotate_left
     ·intro w'
      go_simp
      with_reducible rfl
     rotate_left
     ·simp only [Act.put, List.setIfInBounds_toArray, List.set_cons_zero, List.set_cons_succ, i64_w, i32_w]
      rfl
     refine done_ (done_of HT_.out (by kernel_rfl)) ?_
     try go_wp2
     go_ret
     exact ⟨by first | rfl | (simp [errW_none, errW_some] <;> rfl) | (simp [*, errW_none, errW_some] <;> rfl), by repeat (first | (with_reducible first | exact HB.out | apply below_alloc | apply pw_below_drewN | apply below_drew1 | refine below_set ?_ GE206.out) | exact HB.out)⟩
    ·rw [if_neg c12] at H
     exact absurd H (by simp)
end Go.Proofs.Ytdfilkofhgmakaa.F
