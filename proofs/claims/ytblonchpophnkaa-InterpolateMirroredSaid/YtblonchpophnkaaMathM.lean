/- The law InterpolateMirrored, told of numbers alone. -/
import Derived.Test.YtblonchpophnkaaMathJ
import Derived.Test.YtblonchpophnkaaMathF
import Derived.Test.YtblonchpophnkaaFx34
import Derived.OpenShut
namespace Go.Proofs.Ytblonchpophnkaa.Pure
open Go.RowKit Go.Proofs.Ytblonchpophnkaa.F Go.Proofs.YtblonchpophnkaaW.PrintWords Go.Proofs.YtblonchpophnkaaW.PrintLast Go.Proofs.YtblonchpophnkaaW.PrintMore
set_option linter.unusedVariables false
set_option linter.unusedSimpArgs false
theorem ab_neg (x : Int) : ab (-x) = ab x := by unfold ab; split <;> split <;> omega
theorem onq_neg (x y : Int) : onq x (-y) ↔ onq x y := by unfold onq; omega
def flip (kind : Int) : Int := if kind = 3 then 4 else 3
theorem near_neg (x : Int) : near (-x) ↔ near x := by unfold near; omega
theorem validS_mirror {fx fy fz kind tx ty tz cx cy rate : Int} (a : isarc kind) (v : validS fx fy fz kind tx ty tz cx cy rate = 0) :
    validS fx (-fy) fz (flip kind) tx (-ty) tz cx (-cy) rate = 0 ∧ isarc (flip kind) := by
  obtain ⟨o, e, r4, c1, c2, rr⟩ := validS_ok_arc v a
  have a2 : isarc (flip kind) := by unfold isarc flip; split <;> omega
  refine ⟨?_, a2⟩
  have nl : ¬ okline (flip kind) rate := by unfold okline; unfold isarc at a2; omega
  have d1 : -fy - -cy = -(fy - cy) := by omega
  have d2 : -ty - -cy = -(ty - cy) := by omega
  have o2 : okarc fx (-fy) (flip kind) tx (-ty) cx (-cy) rate := by
    obtain ⟨-, p1, p2, p3, p4⟩ := o
    unfold okarc
    rw [d1, d2, onq_neg, onq_neg, ab_neg, ab_neg]
    exact ⟨a2, p1, p2, p3, p4⟩
  unfold validS
  rw [if_neg nl, if_pos o2, if_pos]
  rw [d1, ab_neg]
  unfold ends round4 near at *
  omega

/-- the mirrored quarter -/
def mq (s : Int) : Int := if s = 1 then 3 else if s = 3 then 1 else s
theorem qd_mirror {x y : Int} (h : onq x y) : (qd x (-y)).1 = mq (qd x y).1 := by
  have P := qd_inv h
  have P' := qd_on h
  have Q := qd_inv ((onq_neg x y).mpr h)
  have Q' := qd_on ((onq_neg x y).mpr h)
  unfold mq
  rcases P with ⟨a, b, c⟩ | ⟨a, b, c⟩ | ⟨a, b, c⟩ | ⟨a, b, c⟩ <;> rw [a] <;> rcases Q with ⟨a', b', c'⟩ | ⟨a', b', c'⟩ | ⟨a', b', c'⟩ | ⟨a', b', c'⟩ <;> rw [a'] <;> simp <;> omega

theorem quarters_mirror {fx fy kind tx ty cx cy : Int} (a : isarc kind) (h1 : onq (fx-cx) (fy-cy)) (h2 : onq (tx-cx) (ty-cy)) :
    quartersS fx (-fy) (flip kind) tx (-ty) cx (-cy) = quartersS fx fy kind tx ty cx cy := by
  rw [quartersS_eq, quartersS_eq]
  rw [show -fy - -cy = -(fy - cy) by omega, show -ty - -cy = -(ty - cy) by omega, qd_mirror h1, qd_mirror h2]
  have P := qd_on h1
  have Q := qd_on h2
  generalize (qd (fx-cx) (fy-cy)).1 = s at *
  generalize (qd (tx-cx) (ty-cy)).1 = e at *
  have cs : s = 0 ∨ s = 1 ∨ s = 2 ∨ s = 3 := by omega
  have ce : e = 0 ∨ e = 1 ∨ e = 2 ∨ e = 3 := by omega
  clear P Q
  rcases a with rfl | rfl <;> rcases cs with rfl | rfl | rfl | rfl <;> rcases ce with rfl | rfl | rfl | rfl <;> simp [flip, mq]

theorem rel_mirror {s r n kind k j : Int} (a : isarc kind) (s0 : 0 ≤ s) (s3 : s ≤ 3) :
    (rel (mq s) r n (flip kind) k j).1 = (rel s r n kind k j).1 ∧ (rel (mq s) r n (flip kind) k j).2 = -(rel s r n kind k j).2 := by
  unfold rel
  rcases a with rfl | rfl
  · have f : flip 3 = 4 := rfl
    rw [f]
    have t : turn 4 (mq s) j = (4 - turn 3 s j) % 4 := by
      unfold turn mq
      simp only [if_neg (show ¬ (4:Int) = 3 by omega), if_true]
      split
      · omega
      · split <;> omega
    have u : turn 3 s j = 0 ∨ turn 3 s j = 1 ∨ turn 3 s j = 2 ∨ turn 3 s j = 3 := by
      unfold turn; simp only [if_true]; omega
    rw [t]
    rcases u with u | u | u | u <;> rw [u] <;> simp [rot, sgn]
  · have f : flip 4 = 3 := rfl
    rw [f]
    have t : turn 3 (mq s) j = (4 - turn 4 s j) % 4 := by
      unfold turn mq
      simp only [if_neg (show ¬ (4:Int) = 3 by omega), if_true]
      split
      · omega
      · split <;> omega
    have u : turn 4 s j = 0 ∨ turn 4 s j = 1 ∨ turn 4 s j = 2 ∨ turn 4 s j = 3 := by
      unfold turn; simp only [if_neg (show ¬ (4:Int) = 3 by omega)]; omega
    rw [t]
    rcases u with u | u | u | u <;> rw [u] <;> simp [rot, sgn]

theorem arcL_mirror {fx fy fz kind tx ty tz cx cy rate : Int} (a : isarc kind) (v : validS fx fy fz kind tx ty tz cx cy rate = 0) :
    arcL fx (-fy) fz (flip kind) tx (-ty) tz cx (-cy) = (arcL fx fy fz kind tx ty tz cx cy).map (fun p => ⟨p.f0, -p.f1, p.f2⟩) := by
  obtain ⟨o, e, r4, c1, c2, rr⟩ := validS_ok_arc v a
  have ok := arcOk_of v a
  unfold arcL AL
  rw [quarters_mirror a o.2.2.1 o.2.2.2.1]
  rw [show -fy - -cy = -(fy - cy) by omega, qd_mirror o.2.2.1, ab_neg, List.map_map]
  apply List.map_congr_left
  intro i _
  simp only [Function.comp, arcAt_rel]
  obtain ⟨m1, m2⟩ := rel_mirror (s := (qd (fx-cx) (fy-cy)).1) (r := ab (fx-cx) + ab (fy-cy)) (n := chN (ab (fx-cx) + ab (fy-cy))) (k := (i:Int) % chN (ab (fx-cx) + ab (fy-cy)) + 1) (j := (i:Int) / chN (ab (fx-cx) + ab (fy-cy))) a ok.s0 ok.s3
  rw [m1, m2]
  congr 1
  omega

theorem mirror_l0 (L : List S23) (hn : L.length ≤ 4000) (hin : ∀ p ∈ L, -100000000 ≤ p.f1 ∧ p.f1 ≤ 100000000) (d : Nat) :
    ∀ (k i : Nat), L.length - i = d → i ≤ L.length → d < k →
    swarflaw33_InterpolateMirrored.l0 k L (L.map (fun p => (⟨p.f0, -p.f1, p.f2⟩ : S23))) (L.length : Int) i = some true := by
  induction d with
  | zero =>
    intro k i e1 e2 e3
    obtain ⟨k, rfl⟩ : ∃ m, k = m + 1 := ⟨k - 1, by omega⟩
    rw [swarflaw33_InterpolateMirrored.l0, if_neg (by omega)]
  | succ d ih =>
    intro k i e1 e2 e3
    obtain ⟨k, rfl⟩ : ∃ m, k = m + 1 := ⟨k - 1, by omega⟩
    have hi : i < L.length := by omega
    have er : rd_T23 L (i:Int) = L[i] := by unfold rd_T23; simp [hi]
    have em : rd_T23 (L.map (fun p => (⟨p.f0, -p.f1, p.f2⟩ : S23))) (i:Int) = ⟨L[i].f0, -L[i].f1, L[i].f2⟩ := by unfold rd_T23; simp [hi]
    have b := hin L[i] (List.getElem_mem hi)
    have nx := ih k (i+1) (by omega) (by omega) (by omega)
    rw [show ((i+1 : Nat) : Int) = (i:Int)+1 by omega] at nx
    rw [swarflaw33_InterpolateMirrored.l0, if_pos (by omega), if_pos (by omega), if_pos (by omega), if_pos (by rw [List.length_map]; omega), er, em]
    simp only []
    rw [if_pos trivial, Int.neg_neg, w64 (x := L[i].f1) (by omega) (by omega), if_pos rfl, if_pos trivial, w64 (x := (i:Int)+1) (by omega) (by omega)]
    exact nx

theorem law_mirrored {fx fy fz kind tx ty tz cx cy rate : Int} (h1 : I64 fx) (h2 : I64 fy) (h2z : I64 fz) (h3 : I64 tx) (h4 : I64 ty) (h4z : I64 tz) (h5 : I64 cx) (h6 : I64 cy) :
    swarflaw33_InterpolateMirrored.f 7000 fx fy fz kind tx ty tz cx cy rate = some true := by
  unfold swarflaw33_InterpolateMirrored.f
  obtain ⟨b, e⟩ := few_one (kind := kind) (rate := rate) 7000 (by omega) h1 h2 h2z h3 h4 h4z h5 h6
  rw [awake_at 7000 (by omega), e]
  simp only [Option.bind_some, if_true]
  have away : swarflaw33_InterpolateMirrored.j0 7000 true fx fy fz kind tx ty tz cx cy rate = some true := by
    rw [swarflaw33_InterpolateMirrored.j0, if_pos (by rfl), awake_at _ (by omega)]; rfl
  cases b with
  | false => rw [if_neg (by decide)]; exact away
  | true =>
    rw [if_pos (by rfl), rvalid_f _ (by omega) h1 h2 h3 h4 h5 h6]
    simp only [Option.bind_some]
    by_cases v : validS fx fy fz kind tx ty tz cx cy rate = 0
    · rw [v]
      rw [swarflaw33_InterpolateMirrored.j0, if_neg (by decide)]
      have main : isarc kind → swarflaw33_InterpolateMirrored.j1 6999 fx fy fz kind tx ty tz cx cy rate fx (wrap64 (-fy)) fz (flip kind) tx (wrap64 (-ty)) tz cx (wrap64 (-cy)) rate = some true := by
        intro a
        obtain ⟨o, e, r4, c1, c2, rr⟩ := validS_ok_arc v a
        obtain ⟨v2, a2⟩ := validS_mirror a v
        have e' := e
        unfold ends near at e'
        have c2' := c2
        unfold near at c2'
        rw [w64 (x := -fy) (by omega) (by omega), w64 (x := -ty) (by omega) (by omega), w64 (x := -cy) (by omega) (by omega)]
        rw [swarflaw33_InterpolateMirrored.j1, Arc_f _ (by omega) h1 h2 h2z h3 h4 h4z h5 h6, Arc_f _ (by omega) h1 (by unfold I64; omega) h2z h3 (by unfold I64; omega) h4z h5 (by unfold I64; omega)]
        unfold arcR
        simp only [Option.bind_some, if_pos a, if_pos v, if_pos a2, if_pos v2, if_true]
        rw [arcL_mirror a v]
        have hl := arcL_length v a
        have hin := (arcL_in v a).1
        rw [swarflaw33_InterpolateMirrored.j2, if_neg (by rw [List.length_map]; simp)]
        refine mirror_l0 (arcL fx fy fz kind tx ty tz cx cy) hl.2.1 ?_ (arcL fx fy fz kind tx ty tz cx cy).length _ 0 (by omega) (by omega) (by omega)
        intro p hp
        have := hin p hp
        unfold InR at this
        omega
      by_cases c3 : kind = 3
      · rw [if_pos c3]
        have m := main (.inl c3)
        rw [show flip kind = 4 by unfold flip; rw [if_pos c3]] at m
        exact m
      · rw [if_neg c3]
        by_cases c4 : kind = 4
        · rw [if_pos c4]
          have m := main (.inr c4)
          rw [show flip kind = 3 by unfold flip; rw [if_neg c3]] at m
          exact m
        · rw [if_neg c4]
    · rw [show (validS fx fy fz kind tx ty tz cx cy rate != 0) = true by simpa using v]
      exact away

end Go.Proofs.Ytblonchpophnkaa.Pure
