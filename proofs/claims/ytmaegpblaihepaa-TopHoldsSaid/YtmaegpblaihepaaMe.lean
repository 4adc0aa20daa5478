/- Plain facts: ticks. Plain facts: feed holds. Plain facts: pieces joined; New accepts the motions of a trip. The law TopHolds, told of numbers alone. -/
import Derived.Test.YtmaegpblaihepaaMd
import Derived.Test.YtmaegpblaihepaaFx24
namespace Go.Proofs.Ytmaegpblaihepaa.Pure
open Go.RowKit Go.Proofs.Ytmaegpblaihepaa.F Go.Proofs.YtmaegpblaihepaaW.PrintWords Go.Proofs.YtmaegpblaihepaaW.PrintLast Go.Proofs.YtmaegpblaihepaaW.PrintMore
set_option linter.unusedVariables false
set_option linter.unusedSimpArgs false
theorem sum_nonneg (l : List Int) (h : ∀ x ∈ l, 0 < x) : (l.length : Int) ≤ l.sum := by
  induction l with
  | nil => simp
  | cons a l ih =>
    have := h a (List.mem_cons_self ..)
    have := ih (fun x hx => h x (List.mem_cons_of_mem _ hx))
    rw [List.sum_cons, List.length_cons]
    omega
/-- a step of a plan -/
theorem adv_ex {ms : List S55} {sp ac je : Int} (J : Job ms sp ac je) {s : CS} {i a : Nat} (h1 : s.ms = ms) (h2 : s.sp = sp) (h3 : s.ac = ac) (h4 : s.je = je) (h5 : s.brk = false) (h6 : s.ix = i) (hi : i < ms.length) (h7 : 0 < ln (rd_T55 ms i)) (h8 : 0 ≤ s.pt)
    (hp : Pcs ms i s.pcs ⟨s.lx, s.ly, s.lz⟩) (hl : s.pcs.length ≤ 1000000) (ha : s.at_ = a) (hal : a < s.pl.length) (hpl : s.pl.length ≤ 3000) (hpos : ∀ x ∈ s.pl, 0 < x) (hs1 : s.pt + (s.pl.drop a).sum ≤ ln (rd_T55 ms i)) (hs2 : s.bra = false → s.pt + (s.pl.drop a).sum = ln (rd_T55 ms i)) :
    ∃ s' j, AdvP s s' ∧ Inv ms sp ac je s' j ∧ s'.held = s.held ∧ rs ms j - s'.pt + 1 ≤ rs ms i - s.pt ∧ (s'.pcs.length : Int) + (rs ms j - s'.pt) ≤ s.pcs.length + (rs ms i - s.pt) ∧ i ≤ j ∧ (s.bra = false → s'.bra = false ∧ s'.pcs.length + i ≤ s.pcs.length + j) := by
  have l := ln_ok (J.mot i hi)
  have lh := l.hi
  have er : rd s.pl (a : Int) = s.pl[a] := by unfold rd; simp [hal]
  have hx : 0 < s.pl[a] := hpos _ (List.getElem_mem hal)
  have hd : (s.pl.drop a).sum = s.pl[a] + (s.pl.drop (a + 1)).sum := by rw [List.drop_eq_getElem_cons hal, List.sum_cons]
  have hq := sum_nonneg (s.pl.drop (a + 1)) (fun x hx => hpos x (List.mem_of_mem_drop hx))
  rw [List.length_drop] at hq
  rw [hd] at hs1 hs2
  obtain ⟨x, ex⟩ : ∃ x, s.pl[a] = x := ⟨_, rfl⟩
  rw [ex] at er hx hs1 hs2
  clear hd ex
  by_cases c : a + 1 = s.pl.length
  · have e0 : (s.pl.drop (a + 1)).sum = 0 := by rw [List.drop_eq_nil_of_le (by omega)]; rfl
    rw [e0] at hs1 hs2
    obtain ⟨s', j, k1, k2, k3, k4, k5, k6, k7, k8, k9, k10⟩ := stop_ex (s := { s with pt := s.pt + x, at_ := ((a + 1 : Nat) : Int) }) J h1 h2 h3 h4 h5 h6 hi h7 (by show 0 ≤ s.pt + x; omega) (by show s.pt + x ≤ _; omega) hp hl
    dsimp only at k3 k7 k8 k10
    refine ⟨s', j, ⟨by omega, by omega, ?_⟩, k2, k3, by omega, by omega, k9, fun hb => ⟨k4, ?_⟩⟩
    · rw [ha, er, w64 (x := (a : Int) + 1) (by omega) (by omega), if_pos (by omega), w64 (x := s.pt + x) (by omega) (by omega)]
      rw [Int.natCast_add] at k1
      exact k1
    · have := hs2 hb
      have := k10 (by omega)
      omega
  · refine ⟨{ s with pt := s.pt + x, at_ := ((a + 1 : Nat) : Int) }, i, ⟨by omega, by omega, ?_⟩, ⟨h1, h2, h3, h4, h5, h6, by omega, hp, fun hj => by omega, fun _ => ⟨h7, ?_, ?_⟩, fun _ => .inr ⟨a + 1, rfl, by show a + 1 < s.pl.length; omega, hpl, hpos, ?_, ?_⟩⟩, rfl, ?_, ?_, Nat.le_refl _, fun hb => ⟨hb, Nat.le_refl _⟩⟩
    · rw [ha, er, w64 (x := (a : Int) + 1) (by omega) (by omega), if_neg (by omega), w64 (x := s.pt + x) (by omega) (by omega)]
      rfl
    · show 0 ≤ s.pt + x
      omega
    · show s.pt + x < _
      omega
    · show s.pt + x + (s.pl.drop (a + 1)).sum ≤ _
      omega
    · intro hb
      have := hs2 hb
      refine ⟨by omega, ?_⟩
      show s.pt + x + (s.pl.drop (a + 1)).sum = _
      omega
    · show rs ms i - (s.pt + x) + 1 ≤ _
      omega
    · show (s.pcs.length : Int) + (rs ms i - (s.pt + x)) ≤ _
      omega
theorem tick_ex {ms : List S55} {sp ac je : Int} (J : Job ms sp ac je) {s : CS} {i : Nat} (I : Inv ms sp ac je s i) (hi : i < ms.length) (hh : ¬ (s.at_ = (s.pl.length : Int) ∧ s.held = true)) (hl : s.pcs.length ≤ 1000000) :
    ∃ s1 s' j, BeginP s s1 ∧ AdvP s1 s' ∧ Inv ms sp ac je s' j ∧ s'.held = s.held ∧ rs ms j - s'.pt + 1 ≤ rs ms i - s.pt ∧ (s'.pcs.length : Int) + (rs ms j - s'.pt) ≤ s.pcs.length + (rs ms i - s.pt) ∧ i ≤ j ∧ (s.bra = false ∨ s.at_ = (s.pl.length : Int) → s'.bra = false ∧ s'.pcs.length + i ≤ s.pcs.length + j) := by
  have l := ln_ok (J.mot i hi)
  have lh := l.hi
  obtain ⟨K, hK⟩ := l.f
  obtain ⟨p1, p2, p3⟩ := I.pos hi
  rcases I.run hi with ⟨r1, r2⟩ | ⟨a, r1, r2, r3, r4, r5, r6⟩
  · have hr : s.at_ = (s.pl.length : Int) := by rw [r1, r2]; rfl
    have hheld : s.held = false := by
      cases h : s.held with
      | false => rfl
      | true => exact absurd ⟨hr, h⟩ hh
    obtain ⟨r, e1, e2⟩ := lim_ex (J.mot i hi) J.ok
    obtain ⟨L, Q, q1, q2, q3, q4, q5⟩ := plan_ex e2 (n := ln (rd_T55 ms i) - s.pt) (by omega) (by omega)
    have q0 : 0 < L.length := List.length_pos_iff.2 q4
    obtain ⟨s', j, k1, k2, k3, k4, k5, k6, k7⟩ := adv_ex (s := { s with pl := L, at_ := 0, bra := false }) (a := 0) J I.eM I.eS I.eA I.eJ I.eB I.eX hi p1 p2 I.pcs hl rfl q0 q5 q3 (by show s.pt + (L.drop 0).sum ≤ _; rw [List.drop_zero]; omega) (fun _ => by show s.pt + (L.drop 0).sum = _; rw [List.drop_zero]; omega)
    refine ⟨{ s with pl := L, at_ := 0, bra := false }, s', j, ⟨I.eB, by rw [I.eX]; omega, by rw [I.eX, I.eM]; omega, .inr ⟨hr, hheld, ?_⟩⟩, k1, k2, k3, k4, k5, k6, fun _ => k7 rfl⟩
    rw [I.eM, I.eX, I.eS, I.eA, I.eJ]
    refine ⟨K, _, _, _, _, Q, L, hK K (Nat.le_refl _), e1, ?_, by omega, rfl⟩
    rw [w64 (x := ln (rd_T55 ms i) - s.pt) (by omega) (by omega)]
    exact q1 Q (Nat.le_refl _)
  · obtain ⟨s', j, k1, k2, k3, k4, k5, k6, k7⟩ := adv_ex J I.eM I.eS I.eA I.eJ I.eB I.eX hi p1 p2 I.pcs hl r1 r2 r3 r4 r5 (fun hb => (r6 hb).2)
    refine ⟨s, s', j, ⟨I.eB, by rw [I.eX]; omega, by rw [I.eX, I.eM]; omega, .inl ⟨by omega, rfl⟩⟩, k1, k2, k3, k4, k5, k6, fun hb => k7 ?_⟩
    rcases hb with hb | hb
    · exact hb
    · omega
/-- at rest where no tick moves it -/
theorem stops_of {ms : List S55} {sp ac je : Int} {s : CS} {i : Nat} (I : Inv ms sp ac je s i) (h : i = ms.length ∨ (s.at_ = (s.pl.length : Int) ∧ s.held = true)) : StopsP s := by
  refine ⟨?_, I.eB⟩
  rw [I.eM, I.eX]
  by_cases c : i = ms.length
  · left; omega
  · right
    rcases h with h | h
    · exact absurd h c
    · exact ⟨by omega, h.1, h.2⟩
theorem rest_at {ms : List S55} {sp ac je : Int} {s : CS} {i : Nat} (I : Inv ms sp ac je s i) (h : i = ms.length ∨ s.at_ = (s.pl.length : Int)) : s.at_ = (s.pl.length : Int) := by
  rcases h with h | h
  · obtain ⟨a, b, -⟩ := I.fin h
    rw [a, b]; rfl
  · exact h
theorem held_with {ms : List S55} {sp ac je : Int} {s : CS} {i : Nat} (I : Inv ms sp ac je s i) (b : Bool) : Inv ms sp ac je { s with held := b } i :=
  ⟨I.eM, I.eS, I.eA, I.eJ, I.eB, I.eX, I.hi, I.pcs, I.fin, I.pos, I.run⟩
theorem mu_pos {ms : List S55} {sp ac je : Int} (J : Job ms sp ac je) {s : CS} {i : Nat} (I : Inv ms sp ac je s i) : 0 ≤ rs ms i - s.pt := by
  rcases Nat.lt_or_ge i ms.length with h | h
  · have := I.pos h
    have := rs_nonneg J _ (i + 1) rfl
    rw [rs_step h]; omega
  · have e := I.hi
    have := I.fin (by omega)
    rw [rs_end h]; omega
/-- ticks until it stops -/
theorem run_ex {ms : List S55} {sp ac je : Int} (J : Job ms sp ac je) (lim : Int) (hlim : lim ≤ 1000000) (d : Nat) : ∀ (s : CS) (i : Nat) (n : Int), Inv ms sp ac je s i → rs ms i - s.pt ≤ d → (s.pcs.length : Int) + (rs ms i - s.pt) ≤ 1000000 → 0 ≤ n → n + (rs ms i - s.pt) ≤ lim →
    ∃ (s' : CS) (j : Nat) (n' : Int) (K : Nat), (∀ k, K ≤ k → RunP lim k s s' n n') ∧ Inv ms sp ac je s' j ∧ s'.held = s.held ∧ StopsP s' ∧ (j = ms.length ∨ (s'.at_ = (s'.pl.length : Int) ∧ s'.held = true)) ∧ (s'.pcs.length : Int) + (rs ms j - s'.pt) ≤ s.pcs.length + (rs ms i - s.pt) ∧ rs ms j - s'.pt ≤ rs ms i - s.pt ∧
      n ≤ n' ∧ (i < ms.length → ¬ (s.at_ = (s.pl.length : Int) ∧ s.held = true) → n < n') ∧ i ≤ j ∧ (s.bra = false ∨ s.at_ = (s.pl.length : Int) → s'.pcs.length + i ≤ s.pcs.length + j) := by
  induction d with
  | zero =>
    intro s i n I h1 h2 h3 h4
    have m := mu_pos J I
    have hi : i = ms.length := by
      rcases Nat.lt_or_ge i ms.length with h | h
      · have := I.pos h
        have := rs_nonneg J _ (i + 1) rfl
        rw [rs_step h] at h1
        omega
      · have := I.hi; omega
    refine ⟨s, i, n, 1, fun k hk => ?_, I, rfl, stops_of I (.inl hi), .inl hi, Int.le_refl _, Int.le_refl _, Int.le_refl _, fun h => by omega, Nat.le_refl _, fun _ => Nat.le_refl _⟩
    obtain ⟨k, rfl⟩ : ∃ m, k = m + 1 := ⟨k - 1, by omega⟩
    rw [RunP]
    exact .inl ⟨stops_of I (.inl hi), rfl, rfl⟩
  | succ d ih =>
    intro s i n I h1 h2 h3 h4
    have m := mu_pos J I
    by_cases c : i = ms.length ∨ (s.at_ = (s.pl.length : Int) ∧ s.held = true)
    · refine ⟨s, i, n, 1, fun k hk => ?_, I, rfl, stops_of I c, c, Int.le_refl _, Int.le_refl _, Int.le_refl _, fun h h' => ?_, Nat.le_refl _, fun _ => Nat.le_refl _⟩
      · obtain ⟨k, rfl⟩ : ∃ m, k = m + 1 := ⟨k - 1, by omega⟩
        rw [RunP]
        exact .inl ⟨stops_of I c, rfl, rfl⟩
      · rcases c with c | c
        · omega
        · exact absurd c h'
    · have hi : i < ms.length := by
        have := I.hi
        rcases Nat.lt_or_ge i ms.length with h | h
        · exact h
        · exact absurd (.inl (by omega)) c
      obtain ⟨s1, s2, j, t1, t2, t3, t4, t5, t6, t7, t8⟩ := tick_ex J I hi (fun z => c (.inr z)) (by omega)
      have m2 := mu_pos J t3
      obtain ⟨s', j', n', K, g1, g2, g3, g4, g5, g6, g7, g8, -, g10, g11⟩ := ih s2 j (n + 1) t3 (by omega) (by omega) (by omega) (by omega)
      refine ⟨s', j', n', K + 1, fun k hk => ?_, g2, by rw [g3, t4], g4, g5, by omega, by omega, by omega, fun _ _ => by omega, by omega, fun hb => ?_⟩
      · obtain ⟨k, rfl⟩ : ∃ m, k = m + 1 := ⟨k - 1, by omega⟩
        rw [RunP, w64 (x := n + 1) (by omega) (by omega)]
        exact .inr ⟨s1, s2, t1, t2, by omega, g1 k (by omega)⟩
      · obtain ⟨u1, u2⟩ := t8 hb
        have := g11 (.inl u1)
        omega
/-- on to the end -/
theorem fin_ex {ms : List S55} {sp ac je : Int} (J : Job ms sp ac je) (d : Nat) : ∀ (s : CS) (i : Nat) (n : Int), Inv ms sp ac je s i → s.held = false → rs ms i - s.pt ≤ d → (s.pcs.length : Int) + (rs ms i - s.pt) ≤ 1000000 → 0 ≤ n → n + (rs ms i - s.pt) ≤ 20000 →
    ∃ (s' : CS) (K : Nat), (∀ k, K ≤ k → FinP k s s' (ms.length : Int) n) ∧ Inv ms sp ac je s' ms.length ∧ (s'.pcs.length : Int) ≤ s.pcs.length + (rs ms i - s.pt) := by
  induction d with
  | zero =>
    intro s i n I hh h1 h2 h3 h4
    have m := mu_pos J I
    have hi : i = ms.length := by
      rcases Nat.lt_or_ge i ms.length with h | h
      · have := I.pos h
        have := rs_nonneg J _ (i + 1) rfl
        rw [rs_step h] at h1
        omega
      · have := I.hi; omega
    subst hi
    refine ⟨s, 1, fun k hk => ?_, I, by omega⟩
    obtain ⟨k, rfl⟩ : ∃ m, k = m + 1 := ⟨k - 1, by omega⟩
    have := I.eX
    rw [FinP, if_neg (by omega)]
  | succ d ih =>
    intro s i n I hh h1 h2 h3 h4
    have m := mu_pos J I
    have ex := I.eX
    by_cases c : i = ms.length
    · subst c
      refine ⟨s, 1, fun k hk => ?_, I, by omega⟩
      obtain ⟨k, rfl⟩ : ∃ m, k = m + 1 := ⟨k - 1, by omega⟩
      rw [FinP, if_neg (by omega)]
    · have hi : i < ms.length := by have := I.hi; omega
      obtain ⟨s1, s2, j, t1, t2, t3, t4, t5, t6, t7, t8⟩ := tick_ex J I hi (fun z => by rw [hh] at z; cases z.2) (by omega)
      have m2 := mu_pos J t3
      obtain ⟨s', K, g1, g2, g3⟩ := ih s2 j (n + 1) t3 (by rw [t4, hh]) (by omega) (by omega) (by omega) (by omega)
      refine ⟨s', K + 1, fun k hk => ?_, g2, by omega⟩
      obtain ⟨k, rfl⟩ : ∃ m, k = m + 1 := ⟨k - 1, by omega⟩
      rw [FinP, if_pos (by omega), w64 (x := n + 1) (by omega) (by omega)]
      exact ⟨by omega, s1, s2, t1, t2, g1 k (by omega)⟩
/-- some ticks -/
theorem ticks_ex {ms : List S55} {sp ac je : Int} (J : Job ms sp ac je) (h : Int) (hh : h ≤ 255) (d : Nat) : ∀ (s : CS) (i : Nat) (n : Int), Inv ms sp ac je s i → h - n ≤ d → 0 ≤ n → (s.pcs.length : Int) + (rs ms i - s.pt) ≤ 1000000 →
    ∃ (s' : CS) (j : Nat), (∀ k, d + 1 ≤ k → TicksP k h n s s') ∧ Inv ms sp ac je s' j ∧ s'.held = s.held ∧ (s'.pcs.length : Int) + (rs ms j - s'.pt) ≤ s.pcs.length + (rs ms i - s.pt) ∧ rs ms j - s'.pt ≤ rs ms i - s.pt := by
  induction d with
  | zero =>
    intro s i n I h1 h2 h3
    refine ⟨s, i, fun k hk => ?_, I, rfl, Int.le_refl _, Int.le_refl _⟩
    obtain ⟨k, rfl⟩ : ∃ m, k = m + 1 := ⟨k - 1, by omega⟩
    rw [TicksP, if_neg (by omega)]
  | succ d ih =>
    intro s i n I h1 h2 h3
    have m := mu_pos J I
    by_cases c : n < h
    · have eu : IntKind.u8.wrap (n + 1) = n + 1 := by
        simp only [IntKind.wrap, IntKind.bits, IntKind.signed]
        simp only [Bool.false_and, Bool.false_eq_true, if_false]
        omega
      have step : ∃ s2 j, TickP s s2 ∧ Inv ms sp ac je s2 j ∧ s2.held = s.held ∧ (s2.pcs.length : Int) + (rs ms j - s2.pt) ≤ s.pcs.length + (rs ms i - s.pt) ∧ rs ms j - s2.pt ≤ rs ms i - s.pt := by
        by_cases c : i = ms.length ∨ (s.at_ = (s.pl.length : Int) ∧ s.held = true)
        · exact ⟨s, i, .inl ⟨stops_of I c, rfl⟩, I, rfl, Int.le_refl _, Int.le_refl _⟩
        · have hi : i < ms.length := by
            have := I.hi
            rcases Nat.lt_or_ge i ms.length with h | h
            · exact h
            · exact absurd (.inl (by omega)) c
          obtain ⟨s1, s2, j, t1, t2, t3, t4, t5, t6, t7, t8⟩ := tick_ex J I hi (fun z => c (.inr z)) (by omega)
          exact ⟨s2, j, .inr ⟨s1, t1, t2⟩, t3, t4, t6, by omega⟩
      obtain ⟨s2, j, u1, u2, u3, u4, u5⟩ := step
      obtain ⟨s', j', g1, g2, g3, g4, g5⟩ := ih s2 j (n + 1) u2 (by omega) (by omega) (by omega)
      refine ⟨s', j', fun k hk => ?_, g2, by rw [g3, u3], by omega, by omega⟩
      obtain ⟨k, rfl⟩ : ∃ m, k = m + 1 := ⟨k - 1, by omega⟩
      rw [TicksP, if_pos c, eu]
      exact ⟨s2, u1, g1 k (by omega)⟩
    · refine ⟨s, i, fun k hk => ?_, I, rfl, Int.le_refl _, Int.le_refl _⟩
      obtain ⟨k, rfl⟩ : ∃ m, k = m + 1 := ⟨k - 1, by omega⟩
      rw [TicksP, if_neg c]
end Go.Proofs.Ytmaegpblaihepaa.Pure
namespace Go.Proofs.Ytmaegpblaihepaa.Pure
open Go.RowKit Go.Proofs.Ytmaegpblaihepaa.F Go.Proofs.YtmaegpblaihepaaW.PrintWords Go.Proofs.YtmaegpblaihepaaW.PrintLast Go.Proofs.YtmaegpblaihepaaW.PrintMore
set_option linter.unusedVariables false
set_option linter.unusedSimpArgs false
/-- braking, as Hold asks for it -/
theorem brake_ex {S A J b l : Int} (m : movS S A J b l) : ∃ (T : List Int) (K : Nat), profile_Needed.f K b l S A J = some (T.sum, 0) ∧ profile_Stop.f K b l S A J = some (T, 0) ∧ ∀ x ∈ T, 0 < x := by
  have e := mov_b m
  obtain ⟨o, c1, c2, s⟩ := m
  have m : movS S A J b l := ⟨o, c1, c2, s⟩
  obtain ⟨T, K, t⟩ := brk_all o s
  refine ⟨T, K + 1, ?_, ?_, fun x hx => (t.pos x hx).1⟩
  · unfold profile_Needed.f
    rw [moving_f (K + 1) (by omega), decide_eq_true m]
    simp only [Option.bind_some, if_true]
    unfold profile_Limits_distance.f
    rw [e, t.dist (K + 1) (by omega) 0 (by omega) (by omega)]
    simp only [Option.bind_some, Int.zero_add]
  · unfold profile_Stop.f
    rw [moving_f (K + 1) (by omega), decide_eq_true m]
    simp only [Option.bind_some, if_true]
    rw [e, t.prog (K + 1) (by omega) [] (by simp)]
    rfl
theorem hold_ex {ms : List S55} {sp ac je : Int} (J : Job ms sp ac je) {s : CS} {i : Nat} (I : Inv ms sp ac je s i) (hl : s.pcs.length ≤ 1000000) :
    ∃ s' j, HoldP s s' ∧ Inv ms sp ac je s' j ∧ s'.held = true ∧ rs ms j - s'.pt = rs ms i - s.pt ∧ s'.pcs.length ≤ s.pcs.length + 1 := by
  have I2 := held_with I true
  by_cases c1 : s.at_ = (s.pl.length : Int)
  · exact ⟨_, i, .inl ⟨c1, rfl⟩, I2, rfl, rfl, Nat.le_succ _⟩
  · cases hb : s.bra with
    | true => exact ⟨_, i, .inr (.inl ⟨c1, hb, rfl⟩), I2, rfl, rfl, Nat.le_succ _⟩
    | false =>
      have hi : i < ms.length := by
        have := I.hi
        rcases Nat.lt_or_ge i ms.length with h | h
        · exact h
        · exact absurd (rest_at I (.inl (by omega))) c1
      have l := ln_ok (J.mot i hi)
      have lh := l.hi
      obtain ⟨K, hK⟩ := l.f
      obtain ⟨p1, p2, p3⟩ := I.pos hi
      rcases I.run hi with ⟨r1, r2⟩ | ⟨a, r1, r2, r3, r4, r5, r6⟩
      · exact absurd (by rw [r1, r2]; rfl) c1
      · obtain ⟨q1, q2⟩ := r6 hb
        obtain ⟨r, e1, e2⟩ := lim_ex (J.mot i hi) J.ok
        have w1 : wrap64 (s.at_ - 1) = (a : Int) - 1 := by rw [r1, w64 (by omega) (by omega)]
        have w2 : wrap64 (s.at_ - 2) = (a : Int) - 2 := by rw [r1, w64 (by omega) (by omega)]
        obtain ⟨b, eb⟩ : ∃ b, (if s.at_ > 1 then rd s.pl (wrap64 (s.at_ - 2)) else 0) = b := ⟨_, rfl⟩
        obtain ⟨v, ev⟩ : ∃ v, rd s.pl (wrap64 (s.at_ - 1)) = v := ⟨_, rfl⟩
        have pre : 0 ≤ wrap64 (s.at_ - 1) ∧ wrap64 (s.at_ - 1) < (s.pl.length : Int) ∧ (s.at_ > 1 → 0 ≤ wrap64 (s.at_ - 2) ∧ wrap64 (s.at_ - 2) < (s.pl.length : Int)) ∧ 0 ≤ s.ix ∧ s.ix < (s.ms.length : Int) := by
          rw [w1, w2, I.eX, I.eM]
          refine ⟨by omega, by omega, fun h => by omega, by omega, by omega⟩
        obtain ⟨g1, g2, g3, g4, g5⟩ := pre
        by_cases m : movS r ac je b v
        · obtain ⟨T, Q, t1, t2, t3⟩ := brake_ex m
          have tl := sum_nonneg T t3
          by_cases c2 : T.sum > ln (rd_T55 ms i) - s.pt
          · refine ⟨{ s with held := true }, i, .inr (.inr ⟨c1, hb, g1, g2, g3, g4, g5, r, ac, je, Q, T.sum, 0, ?_, ?_, .inr ⟨rfl, K, ln (rd_T55 ms i), ?_, .inl ⟨?_, rfl⟩⟩⟩), I2, rfl, rfl, Nat.le_succ _⟩
            · rw [I.eM, I.eX, I.eS, I.eA, I.eJ]; exact e1
            · rw [eb, ev]; exact t1
            · rw [I.eM, I.eX]; exact hK K (Nat.le_refl _)
            · rw [w64 (x := ln (rd_T55 ms i) - s.pt) (by omega) (by omega)]; exact c2
          · by_cases c3 : T.length = 0
            · obtain rfl : T = [] := List.eq_nil_of_length_eq_zero c3
              obtain ⟨s', j, k1, k2, k3, k4, k5, k6, k7, k8, k9, k10⟩ := stop_ex (s := { s with held := true, pl := [], at_ := 0, bra := true }) J I.eM I.eS I.eA I.eJ I.eB I.eX hi p1 p2 (by show s.pt ≤ _; omega) I.pcs hl
              refine ⟨s', j, .inr (.inr ⟨c1, hb, g1, g2, g3, g4, g5, r, ac, je, Q, ([] : List Int).sum, 0, ?_, ?_, .inr ⟨rfl, K, ln (rd_T55 ms i), ?_, .inr ⟨?_, Q, [], ?_, ?_⟩⟩⟩), k2, k3, k7, k8⟩
              · rw [I.eM, I.eX, I.eS, I.eA, I.eJ]; exact e1
              · rw [eb, ev]; exact t1
              · rw [I.eM, I.eX]; exact hK K (Nat.le_refl _)
              · rw [w64 (x := ln (rd_T55 ms i) - s.pt) (by omega) (by omega)]; exact c2
              · rw [eb, ev]; exact t2
              · rw [if_pos (show ((([] : List Int).length : Int) = 0) from rfl)]; exact k1
            · refine ⟨{ s with held := true, pl := T, at_ := 0, bra := true }, i, .inr (.inr ⟨c1, hb, g1, g2, g3, g4, g5, r, ac, je, Q, T.sum, 0, ?_, ?_, .inr ⟨rfl, K, ln (rd_T55 ms i), ?_, .inr ⟨?_, Q, T, ?_, ?_⟩⟩⟩), ⟨I.eM, I.eS, I.eA, I.eJ, I.eB, I.eX, I.hi, I.pcs, fun h => by omega, fun _ => ⟨p1, p2, p3⟩, fun _ => .inr ⟨0, rfl, by show 0 < T.length; omega, by show T.length ≤ 3000; omega, t3, ?_, fun h => by cases h⟩⟩, rfl, rfl, Nat.le_succ _⟩
              · rw [I.eM, I.eX, I.eS, I.eA, I.eJ]; exact e1
              · rw [eb, ev]; exact t1
              · rw [I.eM, I.eX]; exact hK K (Nat.le_refl _)
              · rw [w64 (x := ln (rd_T55 ms i) - s.pt) (by omega) (by omega)]; exact c2
              · rw [eb, ev]; exact t2
              · rw [if_neg (by omega)]
              · show s.pt + (T.drop 0).sum ≤ _
                rw [List.drop_zero]; omega
        · refine ⟨{ s with held := true }, i, .inr (.inr ⟨c1, hb, g1, g2, g3, g4, g5, r, ac, je, 1, 0, 1, ?_, ?_, .inl ⟨by decide, rfl⟩⟩), I2, rfl, rfl, Nat.le_succ _⟩
          · rw [I.eM, I.eX, I.eS, I.eA, I.eJ]; exact e1
          · rw [eb, ev]
            unfold profile_Needed.f
            rw [moving_f 1 (by omega), decide_eq_false m]
            rfl
/-- the position of a controller -/
theorem posP_ex {ms : List S55} {sp ac je : Int} (J : Job ms sp ac je) {s : CS} {i : Nat} (I : Inv ms sp ac je s i) : ∃ x y z, PosP s x y z ∧ (i = ms.length → ms ≠ [] → (⟨x, y, z⟩ : S42) = (rd_T55 ms ((ms.length : Int) - 1)).f1) := by
  have jl := J.len
  by_cases c : i < ms.length
  · obtain ⟨p1, p2, p3⟩ := I.pos c
    exact ⟨_, _, _, pos_ex J I.eM I.eX c p1 p2 (by omega), fun h => by omega⟩
  · have hi := I.hi
    have ei : i = ms.length := by omega
    cases hms : ms with
    | nil =>
      refine ⟨0, 0, 0, .inl ⟨?_, rfl, rfl, rfl⟩, fun _ h => absurd rfl h⟩
      rw [I.eM, hms]; rfl
    | cons m r =>
      rw [← hms]
      have h1 : 0 < ms.length := by rw [hms]; simp
      have ew : wrap64 (s.ix - 1) = (ms.length : Int) - 1 := by rw [I.eX, ei, w64 (by omega) (by omega)]
      refine ⟨(rd_T55 ms ((ms.length : Int) - 1)).f1.f0, (rd_T55 ms ((ms.length : Int) - 1)).f1.f1, (rd_T55 ms ((ms.length : Int) - 1)).f1.f2, .inr (.inl ?_), fun _ _ => rfl⟩
      rw [ew, I.eM, I.eX, ei]
      exact ⟨by omega, rfl, by omega, by omega, rfl, rfl, rfl⟩
/-- the feed holds -/
theorem holds_ex {ms : List S55} {sp ac je : Int} (J : Job ms sp ac je) (hs : List Int) (hn : hs.length ≤ 1000) (hh : ∀ x ∈ hs, x ≤ 255) (d : Nat) : ∀ (s : CS) (i n : Nat), Inv ms sp ac je s i → s.held = false → hs.length - n = d → n ≤ hs.length → (s.pcs.length : Int) + (rs ms i - s.pt) + d ≤ 1000000 → rs ms i - s.pt ≤ 20000 →
    ∃ (s' : CS) (j K : Nat), (∀ k, K ≤ k → HoldsP k hs n s s') ∧ Inv ms sp ac je s' j ∧ s'.held = false ∧ (s'.pcs.length : Int) + (rs ms j - s'.pt) ≤ s.pcs.length + (rs ms i - s.pt) + d ∧ rs ms j - s'.pt ≤ rs ms i - s.pt := by
  induction d with
  | zero =>
    intro s i n I hf h1 h2 h3 h4
    refine ⟨s, i, 1, fun k hk => ?_, I, hf, by omega, Int.le_refl _⟩
    obtain ⟨k, rfl⟩ : ∃ m, k = m + 1 := ⟨k - 1, by omega⟩
    rw [HoldsP, if_neg (by omega)]
  | succ d ih =>
    intro s i n I hf h1 h2 h3 h4
    have hi : n < hs.length := by omega
    have er : rd hs (n : Int) = hs[n] := by unfold rd; simp [hi]
    have hx := hh hs[n] (List.getElem_mem hi)
    rw [← er] at hx
    have m0 := mu_pos J I
    obtain ⟨s1, i1, a1, a2, a3, a4, a5⟩ := ticks_ex J (rd hs n) hx 255 s i 0 I (by omega) (Int.le_refl _) (by omega)
    have m1 := mu_pos J a2
    obtain ⟨s2, i2, b1, b2, b3, b4, b5⟩ := hold_ex J a2 (by omega)
    have m2 := mu_pos J b2
    obtain ⟨s3, i3, n3, K3, c1, c2, c3, c4, c5, c6, c7, -, -, -, -⟩ := run_ex J 20000 (by omega) (rs ms i2 - s2.pt).toNat s2 i2 0 b2 (by omega) (by omega) (Int.le_refl _) (by omega)
    have hrest : s3.at_ = (s3.pl.length : Int) := rest_at c2 (c5.imp_right (fun h => h.1))
    obtain ⟨x, y, z, hp, -⟩ := posP_ex J c2
    obtain ⟨s', j, K, d1, d2, d3, d4, d5⟩ := ih { s3 with held := false } i3 (n + 1) (held_with c2 false) rfl (by omega) (by omega) (by show (s3.pcs.length : Int) + (rs ms i3 - s3.pt) + d ≤ _; omega) (by show rs ms i3 - s3.pt ≤ _; omega)
    dsimp only at d4 d5
    refine ⟨s', j, 256 + K3 + K + 1, fun k hk => ?_, d2, d3, by omega, by omega⟩
    obtain ⟨k, rfl⟩ : ∃ m, k = m + 1 := ⟨k - 1, by omega⟩
    rw [HoldsP, if_pos (by omega), w64 (x := (n : Int) + 1) (by omega) (by omega)]
    refine ⟨by omega, s1, s2, s3, n3, x, y, z, a1 k (by omega), a2.eB, b1, c1 k (by omega), by rw [c3, b3], hrest, c4, hp, ?_⟩
    have := d1 k (by omega)
    rw [Int.natCast_add] at this
    exact this
end Go.Proofs.Ytmaegpblaihepaa.Pure
namespace Go.Proofs.Ytmaegpblaihepaa.Pure
open Go.RowKit Go.Proofs.Ytmaegpblaihepaa.F Go.Proofs.YtmaegpblaihepaaW.PrintWords Go.Proofs.YtmaegpblaihepaaW.PrintLast Go.Proofs.YtmaegpblaihepaaW.PrintMore
set_option linter.unusedVariables false
set_option linter.unusedSimpArgs false
theorem rd55 (l : List S55) (i : Nat) (h : i < l.length) : rd_T55 l (i : Int) = l[i] := by simp [rd_T55, h]
theorem whole_app {k : Nat} {l ol res : List S55} {i : Nat} (hi : i < l.length) (hn : i < 1000000000) (ho : ol.length ≤ 1000000) (hd : ∀ q ∈ ol, q.f4 ≠ (rd_T55 l i).f4) (h : WholeP k l ((i + 1 : Nat) : Int) (ol ++ [rd_T55 l i]) res) : WholeP (k + 1) l i ol res := by
  rw [Int.natCast_add] at h
  rw [WholeP, if_pos (by omega), w64 (x := (i : Int) + 1) (by omega) (by omega)]
  refine ⟨by omega, ho, ?_⟩
  by_cases c : 0 < ol.length
  · have e : wrap64 ((ol.length : Int) - 1) = ((ol.length - 1 : Nat) : Int) := by rw [w64 (by omega) (by omega)]; omega
    rw [if_pos c, e]
    refine ⟨by omega, by omega, ?_⟩
    rw [rd55 ol (ol.length - 1) (by omega), if_neg (hd _ (List.getElem_mem _))]
    exact h
  · rw [if_neg c]; exact h
theorem whole_set {k : Nat} {l base res : List S55} {q : S55} {i : Nat} (hi : i < l.length) (hn : i < 1000000000) (ho : base.length ≤ 1000) (h4 : q.f4 = (rd_T55 l i).f4) (h1 : q.f1 = (rd_T55 l i).f0) (h2 : q.f2 = (rd_T55 l i).f2) (h3 : q.f3 = (rd_T55 l i).f3)
    (h : WholeP k l ((i + 1 : Nat) : Int) (base ++ [{ q with f1 := (rd_T55 l i).f1 }]) res) : WholeP (k + 1) l i (base ++ [q]) res := by
  rw [Int.natCast_add] at h
  have el : (base ++ [q]).length = base.length + 1 := by simp
  have e : wrap64 (((base ++ [q]).length : Int) - 1) = ((base.length : Nat) : Int) := by rw [el, w64 (by omega) (by omega)]; omega
  have er : rd_T55 (base ++ [q]) ((base.length : Nat) : Int) = q := by rw [rd55 _ _ (by omega)]; simp
  rw [WholeP, if_pos (by omega), w64 (x := (i : Int) + 1) (by omega) (by omega)]
  refine ⟨by omega, by omega, ?_⟩
  rw [if_pos (by omega), e, er]
  refine ⟨by omega, by omega, ?_⟩
  rw [if_pos h4, h1]
  refine ⟨rfl, rfl, rfl, h2, h3, ?_⟩
  have es : (base ++ [q]).set ((base.length : Nat) : Int).toNat { q with f1 := (rd_T55 l i).f1 } = base ++ [{ q with f1 := (rd_T55 l i).f1 }] := by
    rw [Int.toNat_natCast, List.set_append_right _ _ (Nat.le_refl _)]
    simp
  rw [es]
  exact h
theorem whole_chain {m : S55} {b : S42} {l base res tail : List S55} {K : Nat} (hn : l.length < 1000000000) (ho : base.length ≤ 1000) (t : List S55) : ∀ (a : S42) (i : Nat), Chain m a b t → l.drop i = t ++ tail →
    (∀ k, K ≤ k → WholeP k l ((i + t.length : Nat) : Int) (base ++ [⟨m.f0, b, m.f2, m.f3, m.f4⟩]) res) → ∀ k, K + t.length ≤ k → WholeP k l i (base ++ [⟨m.f0, a, m.f2, m.f3, m.f4⟩]) res := by
  induction t with
  | nil => intro a i hc _ h k hk; rw [show a = b from hc]; exact h k hk
  | cons p t ih =>
    intro a i hc hd h k hk
    obtain ⟨c0, c1, c2, c3, c4⟩ := hc
    have hi : i < l.length := by
      rcases Nat.lt_or_ge i l.length with h | h
      · exact h
      · rw [List.drop_eq_nil_of_le h] at hd; cases hd
    rw [List.drop_eq_getElem_cons hi, List.cons_append, List.cons.injEq] at hd
    have ep : rd_T55 l (i : Int) = p := by rw [rd55 l i hi]; exact hd.1
    rw [List.length_cons] at hk h
    obtain ⟨k, rfl⟩ : ∃ m, k = m + 1 := ⟨k - 1, by omega⟩
    refine whole_set hi (by omega) ho (by rw [ep]; exact c3.symm) (by rw [ep]; exact c0.symm) (by rw [ep]; exact c1.symm) (by rw [ep]; exact c2.symm) ?_
    have := ih p.f1 (i + 1) c4 hd.2 (by rw [show i + 1 + t.length = i + (t.length + 1) by omega]; exact h) k (by omega)
    rw [ep]
    exact this
def lgB (m : S55) : Bool := !(m.f0.f0 == m.f1.f0) || (!(m.f0.f1 == m.f1.f1) || (!(m.f0.f2 == m.f1.f2)))
theorem lgB_no {m : S55} (h : lgB m = false) : m.f0 = m.f1 := by
  unfold lgB at h
  rw [Bool.or_eq_false_iff, Bool.or_eq_false_iff] at h
  simp only [Bool.not_eq_false', beq_iff_eq] at h
  rcases m with ⟨⟨a0, a1, a2⟩, ⟨b0, b1, b2⟩, _, _, _⟩
  dsimp only at h ⊢
  rw [S42.mk.injEq]
  exact h
theorem lgB_yes {m : S55} (h : lgB m = true) : m.f0 ≠ m.f1 := by
  intro e
  unfold lgB at h
  rw [e] at h
  simp at h
theorem take_blk {ms : List S55} {sp ac je : Int} (J : Job ms sp ac je) {j : Nat} {q : S55} (h : q ∈ (ms.take j).filter lgB) : q.f4 < (j : Int) := by
  have h := (List.mem_filter.1 h).1
  obtain ⟨i, hi, e⟩ := List.mem_iff_getElem.1 h
  rw [List.length_take] at hi
  rw [List.getElem_take] at e
  have := J.blk i (by omega)
  rw [rd55 ms i (by omega), e] at this
  omega
theorem whole_all {ms : List S55} {sp ac je : Int} (J : Job ms sp ac je) {l res : List S55} (hn : l.length < 1000000000) (j : Nat) : ∀ (f tail : List S55) (K : Nat), j ≤ ms.length → l = f ++ tail → Full ms j f → (∀ k, K ≤ k → WholeP k l (f.length : Int) ((ms.take j).filter lgB) res) → ∃ K', ∀ k, K' ≤ k → WholeP k l 0 [] res := by
  induction j with
  | zero =>
    intro f tail K _ _ hf h
    obtain rfl : f = [] := hf
    exact ⟨K, h⟩
  | succ j ih =>
    intro f tail K hj hl hf h
    obtain ⟨f', t, e1, e2, e3, e4⟩ := hf
    have hjl : j < ms.length := by omega
    have jl := J.len
    have hm := rd55 ms j hjl
    have ht : ms.take (j + 1) = ms.take j ++ [rd_T55 ms j] := by rw [hm]; exact List.take_succ_eq_append_getElem hjl
    have hlen : ((ms.take j).filter lgB).length ≤ 1000 := by
      have := List.length_filter_le lgB (ms.take j)
      rw [List.length_take] at this
      omega
    rw [ht, List.filter_append] at h
    have hdrop : l.drop f'.length = t ++ tail := by rw [hl, e1, List.append_assoc, List.drop_left]
    refine ih f' (t ++ tail) (K + t.length) (by omega) (by rw [hl, e1, List.append_assoc]) e2 ?_
    cases hg : lgB (rd_T55 ms j) with
    | false =>
      obtain rfl := e4 (lgB_no hg)
      rw [show [rd_T55 ms (j : Int)].filter lgB = [] by simp [hg], List.append_nil] at h
      rw [List.append_nil] at e1
      subst e1
      exact h
    | true =>
      rw [show [rd_T55 ms (j : Int)].filter lgB = [rd_T55 ms (j : Int)] by simp [hg]] at h
      cases t with
      | nil => exact absurd e3 (lgB_yes hg)
      | cons p t =>
        obtain ⟨c0, c1, c2, c3, c4⟩ := e3
        intro k hk
        rw [List.length_cons] at hk
        have hi : f'.length < l.length := by
          rcases Nat.lt_or_ge f'.length l.length with h | h
          · exact h
          · rw [List.drop_eq_nil_of_le h] at hdrop; cases hdrop
        rw [List.drop_eq_getElem_cons hi, List.cons_append, List.cons.injEq] at hdrop
        have ep : rd_T55 l (f'.length : Int) = p := by rw [rd55 l _ hi]; exact hdrop.1
        obtain ⟨k, rfl⟩ : ∃ m, k = m + 1 := ⟨k - 1, by omega⟩
        refine whole_app hi (by omega) (by omega) (fun q hq => ?_) ?_
        · rw [ep, c3, J.blk j hjl]
          have := take_blk J hq
          omega
        · rw [ep]
          have hp : p = ⟨(rd_T55 ms j).f0, p.f1, (rd_T55 ms j).f2, (rd_T55 ms j).f3, (rd_T55 ms j).f4⟩ := by
            rw [← c0, ← c1, ← c2, ← c3]
          rw [hp]
          have := whole_chain (K := K) (res := res) (tail := tail) hn hlen t p.f1 (f'.length + 1) c4 hdrop.2 (by
            rw [show f'.length + 1 + t.length = f.length by rw [e1, List.length_append, List.length_cons]; omega]
            exact h) k (by omega)
          exact this
theorem whole_ex {ms : List S55} {sp ac je : Int} (J : Job ms sp ac je) {l : List S55} {p : S42} (hn : l.length < 1000000000) (h : Pcs ms ms.length l p) : ∃ K, ∀ k, K ≤ k → WholeP k l 0 [] (ms.filter lgB) := by
  obtain ⟨f, t, e, hf, -, ht⟩ := h
  obtain rfl := ht rfl
  rw [List.append_nil] at e
  subst e
  refine whole_all J hn ms.length l [] 1 (Nat.le_refl _) (List.append_nil l).symm hf (fun k hk => ?_)
  obtain ⟨k, rfl⟩ : ∃ m, k = m + 1 := ⟨k - 1, by omega⟩
  rw [WholeP, if_neg (by omega), List.take_length]
theorem long_l0 (ms : List S55) (hn : ms.length ≤ 1000) (d : Nat) : ∀ (k i : Nat) (out : List S55), ms.length - i = d → out.length ≤ i → i ≤ ms.length → d + 1 ≤ k → swarftop_long.l0 k out ms (ms.length : Int) i = some (out ++ (ms.drop i).filter lgB) := by
  induction d with
  | zero =>
    intro k i out h1 h2 h3 h4
    obtain ⟨k, rfl⟩ : ∃ m, k = m + 1 := ⟨k - 1, by omega⟩
    rw [swarftop_long.l0, if_neg (by omega), List.drop_eq_nil_of_le (by omega)]
    simp
  | succ d ih =>
    intro k i out h1 h2 h3 h4
    obtain ⟨k, rfl⟩ : ∃ m, k = m + 1 := ⟨k - 1, by omega⟩
    have hi : i < ms.length := by omega
    rw [swarftop_long.l0, if_pos (by omega), if_pos (by omega), if_pos (by omega), w64 (x := (i : Int) + 1) (by omega) (by omega), List.drop_eq_getElem_cons hi, rd55 ms i hi]
    cases hg : lgB ms[i] with
    | true =>
      have g := hg
      unfold lgB at g
      have := ih k (i + 1) (out ++ [ms[i]]) (by omega) (by rw [List.length_append]; simp; omega) (by omega) (by omega)
      rw [Int.natCast_add] at this
      rw [if_pos g, if_pos (by omega), List.filter_cons, hg, if_pos rfl]
      refine Eq.trans this ?_
      rw [List.append_assoc]; rfl
    | false =>
      have g := hg
      unfold lgB at g
      have := ih k (i + 1) out (by omega) (by omega) (by omega) (by omega)
      rw [Int.natCast_add] at this
      rw [if_neg (by rw [g]; decide), List.filter_cons, hg, if_neg (by decide)]
      exact this
theorem long_f (ms : List S55) (hn : ms.length ≤ 1000) (k : Nat) (hk : 2000 ≤ k) : swarftop_long.f k ms = some (ms.filter lgB) := by
  unfold swarftop_long.f
  have := long_l0 ms hn ms.length k 0 [] (by omega) (Nat.le_refl _) (by omega) (by omega)
  rw [List.drop_zero, List.nil_append] at this
  exact this
theorem same_l0 (l : List S55) (hn : l.length ≤ 1000) (d : Nat) : ∀ (k i : Nat), l.length - i = d → i ≤ l.length → d + 1 ≤ k → swarfref47_Same.l0 k l l i = some true := by
  induction d with
  | zero =>
    intro k i h1 h2 h3
    obtain ⟨k, rfl⟩ : ∃ m, k = m + 1 := ⟨k - 1, by omega⟩
    rw [swarfref47_Same.l0, if_neg (by omega)]
  | succ d ih =>
    intro k i h1 h2 h3
    obtain ⟨k, rfl⟩ : ∃ m, k = m + 1 := ⟨k - 1, by omega⟩
    have := ih k (i + 1) (by omega) (by omega) (by omega)
    rw [Int.natCast_add] at this
    rw [swarfref47_Same.l0, if_pos (by omega), if_pos (by omega), if_pos (by omega), if_neg (by simp), w64 (x := (i : Int) + 1) (by omega) (by omega)]
    exact this
theorem same_f (l : List S55) (hn : l.length ≤ 1000) (k : Nat) (hk : 2000 ≤ k) : swarfref47_Same.f k l l = some true := by
  unfold swarfref47_Same.f
  rw [if_pos rfl]
  exact same_l0 l hn l.length k 0 (by omega) (by omega) (by omega)
/-- New accepts the motions of a trip -/
theorem check_l2 {ms : List S55} {sp ac je : Int} (J : Job ms sp ac je) (d : Nat) : ∀ i : Nat, ms.length - i = d → i ≤ ms.length → ∃ K, ∀ k, K ≤ k → controller_check.l2 k ms (ms.length : Int) i sp ac je = some 0 := by
  have jl := J.len
  induction d with
  | zero =>
    intro i h1 h2
    refine ⟨1, fun k hk => ?_⟩
    obtain ⟨k, rfl⟩ : ∃ m, k = m + 1 := ⟨k - 1, by omega⟩
    rw [controller_check.l2, if_neg (by omega)]
  | succ d ih =>
    intro i h1 h2
    have hi : i < ms.length := by omega
    obtain ⟨K, hK⟩ := ih (i + 1) (by omega) (by omega)
    have l := ln_ok (J.mot i hi)
    obtain ⟨K2, hK2⟩ := l.f
    have lh := l.hi
    have ll := l.lo
    obtain ⟨r, e1, e2⟩ := lim_ex (J.mot i hi) J.ok
    have hst : ∃ (L : List Int) (Q : Nat), ∀ k, Q ≤ k → profile_Steps.f k (ln (rd_T55 ms i)) r ac je = some (L, 0) := by
      by_cases c : ln (rd_T55 ms i) = 0
      · have u := simU_ok e2
        have q : (0 + simU r ac je - 1) / simU r ac je ≤ 3000 := by
          rw [Int.ediv_eq_zero_of_lt (by omega) (by omega)]; omega
        obtain ⟨L, Q, q1, -⟩ := steps_f e2 (len := 0) ⟨by omega, by omega⟩ q
        rw [c]
        exact ⟨L, Q, q1⟩
      · obtain ⟨L, Q, q1, -⟩ := plan_ex e2 (n := ln (rd_T55 ms i)) (by omega) lh
        exact ⟨L, Q, q1⟩
    obtain ⟨L, Q, hQ⟩ := hst
    refine ⟨K + K2 + Q + 1, fun k hk => ?_⟩
    obtain ⟨k, rfl⟩ : ∃ m, k = m + 1 := ⟨k - 1, by omega⟩
    have e3 := hK2 k (by omega)
    unfold lenf at e3
    have e4 := hK k (by omega)
    rw [Int.natCast_add] at e4
    rw [controller_check.l2, if_pos (by omega), if_pos (by omega), if_pos (by omega), e3]
    simp only [Option.bind_some]
    rw [e1]
    simp only [Option.bind_some]
    rw [hQ k (by omega)]
    simp only [Option.bind_some]
    rw [if_pos trivial, w64 (x := (i : Int) + 1) (by omega) (by omega)]
    exact e4
theorem far_no {x y z : Int} (hx : -10000000 ≤ x ∧ x ≤ 10000000) (hy : -10000000 ≤ y ∧ y ≤ 10000000) (hz : -10000000 ≤ z ∧ z ≤ 10000000) : controller_far.f x y z = some false := by
  unfold controller_far.f
  have a := mx_eq x y
  have b := mx_eq (mx x y) z
  have c := mn_eq x y
  have d := mn_eq (mn x y) z
  rw [if_neg (by omega), decide_eq_false (by omega)]
theorem check_l1 {ms : List S55} {sp ac je : Int} (J : Job ms sp ac je) (d : Nat) : ∀ i : Nat, ms.length - i = d → i ≤ ms.length → ∃ K, ∀ k, K ≤ k → controller_check.l1 k ms ms (ms.length : Int) i sp ac je = some 0 := by
  have jl := J.len
  induction d with
  | zero =>
    intro i h1 h2
    obtain ⟨K, hK⟩ := check_l2 J ms.length 0 (by omega) (by omega)
    refine ⟨K + 1, fun k hk => ?_⟩
    obtain ⟨k, rfl⟩ : ∃ m, k = m + 1 := ⟨k - 1, by omega⟩
    rw [controller_check.l1, if_neg (by omega), if_neg (by omega)]
    exact hK k (by omega)
  | succ d ih =>
    intro i h1 h2
    have hi : i < ms.length := by omega
    obtain ⟨K, hK⟩ := ih (i + 1) (by omega) (by omega)
    obtain ⟨hx, hy, hz, dx, dy, dz, -⟩ := J.mot i hi
    refine ⟨K + 1, fun k hk => ?_⟩
    obtain ⟨k, rfl⟩ : ∃ m, k = m + 1 := ⟨k - 1, by omega⟩
    have e4 := hK k (by omega)
    rw [Int.natCast_add] at e4
    rw [controller_check.l1, if_pos (by omega), if_pos (by omega), if_pos (by omega), far_no (by omega) (by omega) (by omega)]
    simp only [Option.bind_some]
    rw [if_neg (by decide), far_no (by omega) (by omega) (by omega)]
    simp only [Option.bind_some]
    rw [if_neg (by decide), w64 (x := (i : Int) + 1) (by omega) (by omega)]
    exact e4
theorem check_l0 {ms : List S55} {sp ac je : Int} (J : Job ms sp ac je) (d : Nat) : ∀ i : Nat, ms.length - i = d → i ≤ ms.length → ∃ K, ∀ k, K ≤ k → controller_check.l0 k ms ms (ms.length : Int) i sp ac je = some 0 := by
  have jl := J.len
  induction d with
  | zero =>
    intro i h1 h2
    obtain ⟨K, hK⟩ := check_l1 J ms.length 0 (by omega) (by omega)
    refine ⟨K + 1, fun k hk => ?_⟩
    obtain ⟨k, rfl⟩ : ∃ m, k = m + 1 := ⟨k - 1, by omega⟩
    rw [controller_check.l0, if_neg (by omega)]
    exact hK k (by omega)
  | succ d ih =>
    intro i h1 h2
    have hi : i < ms.length := by omega
    obtain ⟨K, hK⟩ := ih (i + 1) (by omega) (by omega)
    have hr := (J.mot i hi).rate
    refine ⟨K + 1, fun k hk => ?_⟩
    obtain ⟨k, rfl⟩ : ∃ m, k = m + 1 := ⟨k - 1, by omega⟩
    have e4 := hK k (by omega)
    rw [Int.natCast_add] at e4
    rw [controller_check.l0, if_pos (by omega), if_pos (by omega), if_pos (by omega), if_neg (by omega), w64 (x := (i : Int) + 1) (by omega) (by omega)]
    by_cases c : (i : Int) > 0
    · have hc := J.conn (i - 1) (by omega)
      rw [show i - 1 + 1 = i by omega] at hc
      rw [if_pos c, w64 (x := (i : Int) - 1) (by omega) (by omega), if_pos (by omega), if_pos (by omega), show (i : Int) - 1 = ((i - 1 : Nat) : Int) by omega, hc, if_neg (by simp)]
      exact e4
    · rw [if_neg c]
      exact e4
theorem check_ex {ms : List S55} {sp ac je : Int} (J : Job ms sp ac je) : ∃ K, ∀ k, K ≤ k → controller_check.f k ms sp ac je = some 0 := by
  obtain ⟨K, hK⟩ := check_l0 J ms.length 0 (by omega) (by omega)
  refine ⟨K, fun k hk => ?_⟩
  unfold controller_check.f
  rw [valid_f, if_pos J.ok]
  simp only [Option.bind_some]
  rw [if_pos trivial]
  exact hK k hk
end Go.Proofs.Ytmaegpblaihepaa.Pure
namespace Go.Proofs.Ytmaegpblaihepaa.Pure
open Go.RowKit Go.Proofs.Ytmaegpblaihepaa.F Go.Proofs.YtmaegpblaihepaaW.PrintWords Go.Proofs.YtmaegpblaihepaaW.PrintLast Go.Proofs.YtmaegpblaihepaaW.PrintMore
set_option linter.unusedVariables false
set_option linter.unusedSimpArgs false
theorem tmod600 (a : Int) : -600 ≤ Int.tmod a 600 ∧ Int.tmod a 600 ≤ 600 := by
  rw [Int.tmod_eq_emod]
  split <;> omega
/-- the motions so far -/
structure Part (ol : List S55) (i : Nat) (x y z : Int) : Prop where
  len : ol.length = i
  mot : ∀ j : Nat, j < i → Okm (rd_T55 ol j)
  blk : ∀ j : Nat, j < i → (rd_T55 ol j).f4 = j
  conn : ∀ j : Nat, j + 1 < i → (rd_T55 ol j).f1 = (rd_T55 ol ((j + 1 : Nat) : Int)).f0
  last : ∀ j : Nat, j + 1 = i → (rd_T55 ol j).f1 = ⟨x, y, z⟩
theorem rd_app (ol : List S55) (e : S55) (j : Nat) : rd_T55 (ol ++ [e]) (j : Int) = if j < ol.length then rd_T55 ol j else if j = ol.length then e else z55 := by
  unfold rd_T55
  rw [Int.toNat_natCast, List.getD_eq_getElem?_getD, List.getD_eq_getElem?_getD]
  by_cases c : j < ol.length
  · rw [if_pos c, List.getElem?_append_left c]
  · rw [if_neg c, List.getElem?_append_right (by omega)]
    by_cases d : j = ol.length
    · rw [if_pos d, d]; simp
    · rw [if_neg d, List.getElem?_eq_none (by simp; omega)]; rfl
theorem mot_ex (ws : List S52) (hn : ws.length ≤ 6) (hw : ∀ w ∈ ws, -32768 ≤ w.f3 ∧ w.f3 ≤ 32767) (d : Nat) : ∀ (i : Nat) (x y z : Int) (ol : List S55), ws.length - i = d → i ≤ ws.length →
    (-40000 - 600 * (i : Int) ≤ x ∧ x ≤ 40000 + 600 * i) → (-40000 - 600 * (i : Int) ≤ y ∧ y ≤ 40000 + 600 * i) → (-40000 - 600 * (i : Int) ≤ z ∧ z ≤ 40000 + 600 * i) → Part ol i x y z →
    ∃ (res : List S55) (X Y Z : Int), (∀ k, d + 1 ≤ k → MotP k ws i x y z ol res) ∧ Part res ws.length X Y Z := by
  induction d with
  | zero =>
    intro i x y z ol h1 h2 hx hy hz P
    refine ⟨ol, x, y, z, fun k hk => ?_, by rw [show ws.length = i by omega]; exact P⟩
    obtain ⟨k, rfl⟩ : ∃ m, k = m + 1 := ⟨k - 1, by omega⟩
    rw [MotP, if_neg (by omega)]
  | succ d ih =>
    intro i x y z ol h1 h2 hx hy hz P
    have hi : i < ws.length := by omega
    have er : rd_T52 ws (i : Int) = ws[i] := by simp [rd_T52, hi]
    have hb := hw ws[i] (List.getElem_mem hi)
    rw [← er] at hb
    obtain ⟨w, ew⟩ : ∃ w, rd_T52 ws (i : Int) = w := ⟨_, rfl⟩
    rw [ew] at hb
    have t0 := tmod600 w.f0
    have t1 := tmod600 w.f1
    have t2 := tmod600 w.f2
    have eX : wrap64 (x + wrap64 (Int.tmod w.f0 600)) = x + Int.tmod w.f0 600 := by rw [w64 (x := Int.tmod w.f0 600) (by omega) (by omega), w64 (by omega) (by omega)]
    have eY : wrap64 (y + wrap64 (Int.tmod w.f1 600)) = y + Int.tmod w.f1 600 := by rw [w64 (x := Int.tmod w.f1 600) (by omega) (by omega), w64 (by omega) (by omega)]
    have eZ : wrap64 (z + wrap64 (Int.tmod w.f2 600)) = z + Int.tmod w.f2 600 := by rw [w64 (x := Int.tmod w.f2 600) (by omega) (by omega), w64 (by omega) (by omega)]
    obtain ⟨m0, em⟩ : ∃ m0, (if 0 < wrap64 w.f3 then wrap64 w.f3 else 0) = m0 := ⟨_, rfl⟩
    have bm : 0 ≤ m0 ∧ m0 ≤ 32767 := by
      rw [← em, w64 (x := w.f3) (by omega) (by omega)]
      split <;> omega
    have eR : wrap64 (1000 * m0) = 1000 * m0 := w64 (by omega) (by omega)
    obtain ⟨rt, ert⟩ : ∃ rt, (if wrap64 (1000 * m0) > 0 then (if 20000 < wrap64 (1000 * m0) then wrap64 (1000 * m0) else 20000) else wrap64 (1000 * m0)) = rt := ⟨_, rfl⟩
    have brt : 0 ≤ rt ∧ rt ≤ 1000000000 := by
      rw [← ert, eR]
      split
      · split <;> omega
      · omega
    obtain ⟨tl, etl⟩ : ∃ tl, wrap64 (1 + wrap64 (Int.tdiv (i : Int) 2)) = tl := ⟨_, rfl⟩
    obtain ⟨X, hX⟩ : ∃ X, x + Int.tmod w.f0 600 = X := ⟨_, rfl⟩
    obtain ⟨Y, hY⟩ : ∃ Y, y + Int.tmod w.f1 600 = Y := ⟨_, rfl⟩
    obtain ⟨Z, hZ⟩ : ∃ Z, z + Int.tmod w.f2 600 = Z := ⟨_, rfl⟩
    rw [hX] at eX
    rw [hY] at eY
    rw [hZ] at eZ
    obtain ⟨e, ee⟩ : ∃ e : S55, e = ⟨⟨x, y, z⟩, ⟨X, Y, Z⟩, rt, tl, i⟩ := ⟨_, rfl⟩
    have P2 : Part (ol ++ [e]) (i + 1) X Y Z := by
      have pl := P.len
      refine ⟨by rw [List.length_append, pl]; rfl, fun j hj => ?_, fun j hj => ?_, fun j hj => ?_, fun j hj => ?_⟩
      · rw [rd_app]
        by_cases c : j < ol.length
        · rw [if_pos c]; exact P.mot j (by omega)
        · rw [if_neg c, if_pos (by omega), ee]
          exact ⟨by show -1000000 ≤ x ∧ x ≤ 1000000; omega, by show -1000000 ≤ y ∧ y ≤ 1000000; omega, by show -1000000 ≤ z ∧ z ≤ 1000000; omega, by show -600 ≤ X - x ∧ X - x ≤ 600; omega, by show -600 ≤ Y - y ∧ Y - y ≤ 600; omega, by show -600 ≤ Z - z ∧ Z - z ≤ 600; omega, brt⟩
      · rw [rd_app]
        by_cases c : j < ol.length
        · rw [if_pos c]; exact P.blk j (by omega)
        · rw [if_neg c, if_pos (by omega), ee]
          show (i : Int) = j
          omega
      · rw [rd_app, rd_app, if_pos (show j < ol.length by omega)]
        by_cases c : j + 1 < ol.length
        · rw [if_pos c]; exact P.conn j (by omega)
        · rw [if_neg c, if_pos (by omega), ee]
          exact P.last j (by omega)
      · rw [rd_app, if_neg (by omega), if_pos (by omega), ee]
    obtain ⟨res, X', Y', Z', r1, r2⟩ := ih (i + 1) X Y Z (ol ++ [e]) (by omega) (by omega) (by omega) (by omega) (by omega) P2
    refine ⟨res, X', Y', Z', fun k hk => ?_, r2⟩
    obtain ⟨k, rfl⟩ : ∃ m, k = m + 1 := ⟨k - 1, by omega⟩
    have pl := P.len
    rw [MotP, if_pos (by omega), ew, eX, eY, eZ, em, ert, etl, w64 (x := (i : Int) + 1) (by omega) (by omega), ← ee]
    have := r1 k (by omega)
    rw [Int.natCast_add] at this
    exact ⟨by omega, by omega, this⟩
theorem job_of {ms : List S55} {n : Nat} {x y z sp ac je : Int} (P : Part ms n x y z) (hn : n ≤ 6) (o : okL sp ac je) : Job ms sp ac je := by
  have := P.len
  subst this
  exact ⟨o, by omega, P.mot, P.conn, P.blk⟩
theorem motR_ex (x0 y0 z0 : Int) (hx : -32768 ≤ x0 ∧ x0 ≤ 32767) (hy : -32768 ≤ y0 ∧ y0 ≤ 32767) (hz : -32768 ≤ z0 ∧ z0 ≤ 32767) (ws : List S52) (hw : ∀ w ∈ ws, -32768 ≤ w.f3 ∧ w.f3 ≤ 32767) (sp ac je : Int) :
    ∃ (ok : Bool) (ms : List S55), (∀ k, 10 ≤ k → MotR k x0 y0 z0 ws sp ac je ok ms) ∧ (ok = true → Job ms sp ac je ∧ ms.length ≤ 6) := by
  by_cases c : 6 < ws.length
  · exact ⟨false, [], fun k _ => .inl ⟨c, rfl, rfl⟩, fun h => by cases h⟩
  · by_cases o : okL sp ac je
    · by_cases c1 : sp < 20
      · exact ⟨false, [], fun k _ => .inr ⟨c, 0, by rw [rvalid_f, if_pos o], .inr (.inl ⟨rfl, c1, rfl, rfl⟩)⟩, fun h => by cases h⟩
      · by_cases c2 : ac < 20
        · exact ⟨false, [], fun k _ => .inr ⟨c, 0, by rw [rvalid_f, if_pos o], .inr (.inr (.inl ⟨rfl, c1, c2, rfl, rfl⟩))⟩, fun h => by cases h⟩
        · by_cases c3 : je < 40
          · exact ⟨false, [], fun k _ => .inr ⟨c, 0, by rw [rvalid_f, if_pos o], .inr (.inr (.inr (.inl ⟨rfl, c1, c2, c3, rfl, rfl⟩)))⟩, fun h => by cases h⟩
          · obtain ⟨res, X, Y, Z, r1, r2⟩ := mot_ex ws (by omega) hw ws.length 0 (wrap64 x0) (wrap64 y0) (wrap64 z0) [] (by omega) (by omega) (by rw [w64 (by omega) (by omega)]; omega) (by rw [w64 (by omega) (by omega)]; omega) (by rw [w64 (by omega) (by omega)]; omega) ⟨rfl, fun j hj => by omega, fun j hj => by omega, fun j hj => by omega, fun j hj => by omega⟩
            exact ⟨true, res, fun k hk => .inr ⟨c, 0, by rw [rvalid_f, if_pos o], .inr (.inr (.inr (.inr ⟨rfl, c1, c2, c3, rfl, r1 k (by omega)⟩)))⟩, fun _ => ⟨job_of r2 (by omega) o, by have := r2.len; omega⟩⟩
    · exact ⟨false, [], fun k _ => .inr ⟨c, 1, by rw [rvalid_f, if_neg o], .inl ⟨by decide, rfl, rfl⟩⟩, fun h => by cases h⟩
/-- a new controller -/
theorem new_ex {ms : List S55} {sp ac je : Int} (J : Job ms sp ac je) : ∃ j : Nat, (∀ k, ms.length + 1 ≤ k → SkipTo k ms 0 (j : Int)) ∧ rs ms j = rs ms 0 ∧
    Inv ms sp ac je ({ ms := ms, sp := sp, ac := ac, je := je, ix := (j : Int), pt := 0, pl := [], at_ := 0, bra := false, held := false, brk := false, pcs := [], lx := (rd_T55 ms 0).f0.f0, ly := (rd_T55 ms 0).f0.f1, lz := (rd_T55 ms 0).f0.f2 } : CS) j := by
  obtain ⟨j, j1, j2, j3, j4, j5, j6, j7⟩ := skip_ex J ms.length 0 (by omega) (by omega)
  refine ⟨j, j3, j5, ⟨rfl, rfl, rfl, rfl, rfl, rfl, j2, ⟨[], [], rfl, j6 [] rfl, fun hj => ?_, fun _ => rfl⟩, fun _ => ⟨rfl, rfl, rfl⟩, fun hj => ⟨j4 hj, Int.le_refl _, j4 hj⟩, fun _ => .inl ⟨rfl, rfl⟩⟩⟩
  exact (j7 hj).symm
theorem end_f {ms : List S55} (hn : ms.length ≤ 1000) {x y z : Int} (h : ms ≠ [] → (⟨x, y, z⟩ : S42) = (rd_T55 ms ((ms.length : Int) - 1)).f1) : swarfref47_End.f x y z ms = some (x, y, z) := by
  unfold swarfref47_End.f
  by_cases c : ms.length = 0
  · rw [if_pos (by omega)]
  · have e := h (fun z => c (by rw [z]; rfl))
    rw [if_neg (by omega), w64 (x := (ms.length : Int) - 1) (by omega) (by omega), if_pos (by omega), if_pos (by omega), ← e]
theorem end_ex {ms : List S55} {sp ac je : Int} (J : Job ms sp ac je) (hm : ms.length ≤ 6) (hs : List Int) (hn : hs.length ≤ 6) (hh : ∀ x ∈ hs, x ≤ 255) : ∃ K, ∀ k, K ≤ k → EndP k sp ac je ms hs := by
  obtain ⟨K1, hK1⟩ := check_ex J
  obtain ⟨j, n1, n2, n3⟩ := new_ex J
  have r0 := rs_nonneg J ms.length 0 (by omega)
  obtain ⟨s1, j1, K2, a1, a2, a3, a4, a5⟩ := holds_ex J hs (by omega) hh hs.length _ j 0 n3 rfl (by omega) (by omega) (by show ((([] : List S55).length : Int)) + (rs ms j - 0) + hs.length ≤ 1000000; rw [n2]; simp only [List.length_nil]; omega) (by show rs ms j - 0 ≤ 20000; rw [n2]; omega)
  dsimp only [List.length_nil] at a4 a5
  rw [n2] at a4 a5
  have m1 := mu_pos J a2
  obtain ⟨sF, K3, b1, b2, b3⟩ := fin_ex J (rs ms j1 - s1.pt).toNat s1 j1 0 a2 a3 (by omega) (by omega) (by omega) (by omega)
  obtain ⟨K4, c1⟩ := whole_ex J (by omega) b2.pcs
  obtain ⟨x, y, z, p1, p2⟩ := posP_ex J b2
  have fl := List.length_filter_le lgB ms
  refine ⟨K1 + K2 + K3 + K4 + 2010, fun k hk => ⟨by omega, j, s1, sF, z55, false, ms.filter lgB, ms.filter lgB, x, y, z, hK1 k (by omega), n1 k (by omega), a1 k (by omega), b1 k (by omega), .inl ⟨by rw [b2.eX, b2.eM], rfl, rfl⟩, rest_at b2 (.inl rfl), by omega, c1 k (by omega), long_f ms (by omega) k (by omega), same_f _ (by omega) k (by omega), p1, end_f (by omega) (p2 rfl)⟩⟩
/-- the check of awake51 -/
def mA : S55 := ⟨⟨0, 0, 0⟩, ⟨500, -200, 0⟩, 40000, 2, 0⟩
theorem jobA : Job [mA] 100 50 60 := by
  refine ⟨by unfold okL; omega, by decide, fun i hi => ?_, fun i hi => ?_, fun i hi => ?_⟩
  · obtain rfl : i = 0 := by simp at hi; omega
    exact ⟨by decide, by decide, by decide, by decide, by decide, by decide, by decide⟩
  · simp at hi
  · obtain rfl : i = 0 := by simp at hi; omega
    rfl
theorem awake_ex : ∃ K, ∀ k, K ≤ k → AwakeP k := by
  have J := jobA
  obtain ⟨K1, hK1⟩ := check_ex J
  obtain ⟨j, n1, n2, n3⟩ := new_ex J
  have r0 := rs_nonneg J 1 0 rfl
  have l := ln_ok (J.mot 0 (by decide))
  have lp : ln (rd_T55 [mA] ((0 : Nat) : Int)) ≠ 0 := by
    intro h
    have := l.z h
    exact absurd (congrArg S42.f0 this) (by decide)
  have hj : j < [mA].length := by
    rcases Nat.lt_or_ge j [mA].length with h | h
    · exact h
    · rw [rs_end h, rs_step (by decide), rs_end (i := 0 + 1) (by decide)] at n2
      omega
  obtain ⟨s', j', n', K2, a1, a2, a3, a4, a5, a6, a7, a8, a9, a10, a11⟩ := run_ex J 2000 (by omega) 1500 _ j 0 n3 (by show rs [mA] j - 0 ≤ (1500 : Nat); rw [n2]; omega) (by show ((([] : List S55).length : Int)) + (rs [mA] j - 0) ≤ 1000000; rw [n2]; simp only [List.length_nil]; omega) (Int.le_refl _) (by show 0 + (rs [mA] j - 0) ≤ 2000; rw [n2]; omega)
  have hn' := a9 hj (fun h => by cases h.2)
  have hj' : j' = 1 := by
    rcases a5 with h | h
    · exact h
    · rw [a3] at h; cases h.2
  subst hj'
  have hlen := a11 (.inl rfl)
  dsimp only [List.length_nil] at hlen
  have hpcs : s'.pcs = [mA] := by
    obtain ⟨f, t, e, hf, -, ht⟩ := a2.pcs
    obtain rfl := ht rfl
    rw [List.append_nil] at e
    subst e
    obtain ⟨f2, t2, e2, hf2, hc, -⟩ := hf
    obtain rfl : f2 = [] := hf2
    rw [List.nil_append] at e2
    rw [e2] at hlen ⊢
    cases t2 with
    | nil => exact absurd (congrArg S42.f0 hc) (by decide)
    | cons p t2 =>
      obtain ⟨c0, c1, c2, c3, c4⟩ := hc
      rw [List.length_cons] at hlen
      obtain rfl : t2 = [] := List.eq_nil_of_length_eq_zero (by omega)
      have c4 : p.f1 = _ := c4
      rcases p with ⟨p0, p1, p2, p3, p4⟩
      dsimp only at c0 c1 c2 c3 c4
      subst c0 c1 c2 c3 c4
      rfl
  obtain ⟨x, y, z, p1, p2⟩ := posP_ex J a2
  have e3 := p2 rfl (by simp)
  have e3 : (⟨x, y, z⟩ : S42) = ⟨500, -200, 0⟩ := e3
  rw [S42.mk.injEq] at e3
  obtain ⟨rfl, rfl, rfl⟩ := e3
  refine ⟨K1 + K2 + 10, fun k hk => ⟨j, s', n', z55, false, hK1 k (by omega), n1 k (by simp; omega), a1 k (by omega), by omega, rest_at a2 (.inl rfl), .inl ⟨by rw [a2.eX, a2.eM]; rfl, rfl, rfl⟩, hpcs, p1⟩⟩
/-- all that TopHolds asks for -/
theorem top_ex (x0 y0 z0 : Int) (hx : -32768 ≤ x0 ∧ x0 ≤ 32767) (hy : -32768 ≤ y0 ∧ y0 ≤ 32767) (hz : -32768 ≤ z0 ∧ z0 ≤ 32767) (ws : List S52) (hw : ∀ w ∈ ws, -32768 ≤ w.f3 ∧ w.f3 ≤ 32767) (sp ac je : Int) (hs : List Int) (hh : ∀ x ∈ hs, x ≤ 255) : ∃ k, TopP k x0 y0 z0 ws sp ac je hs := by
  obtain ⟨K1, h1⟩ := awake_ex
  obtain ⟨ok, ms, h2, h3⟩ := motR_ex x0 y0 z0 hx hy hz ws hw sp ac je
  cases ok with
  | false => exact ⟨K1 + 10, h1 _ (by omega), false, ms, h2 _ (by omega), .inl rfl⟩
  | true =>
    obtain ⟨J, hm⟩ := h3 rfl
    by_cases c : 6 < hs.length
    · exact ⟨K1 + 10, h1 _ (by omega), true, ms, h2 _ (by omega), .inr (.inl ⟨rfl, c⟩)⟩
    · obtain ⟨K2, h4⟩ := end_ex J hm hs (by omega) hh
      exact ⟨K1 + K2 + 10, h1 _ (by omega), true, ms, h2 _ (by omega), .inr (.inr ⟨rfl, c, h4 _ (by omega)⟩)⟩
end Go.Proofs.Ytmaegpblaihepaa.Pure
