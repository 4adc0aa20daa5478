/- Plain facts: what a stop does to a controller. -/
import Derived.Test.YtmaegpblaihepaaMc
import Derived.Test.YtmaegpblaihepaaT15
namespace Go.Proofs.Ytmaegpblaihepaa.Pure
open Go.RowKit Go.Proofs.Ytmaegpblaihepaa.F Go.Proofs.YtmaegpblaihepaaW.PrintWords Go.Proofs.YtmaegpblaihepaaW.PrintLast Go.Proofs.YtmaegpblaihepaaW.PrintMore
set_option linter.unusedVariables false
set_option linter.unusedSimpArgs false
/-- the motions of a trip -/
structure Job (ms : List S55) (sp ac je : Int) : Prop where
  ok : okL sp ac je
  len : ms.length ≤ 1000
  mot : ∀ i : Nat, i < ms.length → Okm (rd_T55 ms i)
  conn : ∀ i : Nat, i + 1 < ms.length → (rd_T55 ms i).f1 = (rd_T55 ms ((i + 1 : Nat) : Int)).f0
  blk : ∀ i : Nat, i < ms.length → (rd_T55 ms i).f4 = i
/-- pieces of a motion that lead from a to b -/
def Chain (m : S55) : S42 → S42 → List S55 → Prop
  | a, b, [] => a = b
  | a, b, p :: l => p.f0 = a ∧ p.f2 = m.f2 ∧ p.f3 = m.f3 ∧ p.f4 = m.f4 ∧ Chain m p.f1 b l
theorem Chain.snoc {m : S55} {b c : S42} (l : List S55) : ∀ a, Chain m a b l → Chain m a c (l ++ [⟨b, c, m.f2, m.f3, m.f4⟩]) := by
  induction l with
  | nil => intro a h; exact ⟨h.symm, rfl, rfl, rfl, rfl⟩
  | cons p l ih => intro a h; exact ⟨h.1, h.2.1, h.2.2.1, h.2.2.2.1, ih _ h.2.2.2.2⟩
/-- the pieces of the motions ahead of the i-th -/
def Full (ms : List S55) : Nat → List S55 → Prop
  | 0, l => l = []
  | i + 1, l => ∃ f t, l = f ++ t ∧ Full ms i f ∧ Chain (rd_T55 ms i) (rd_T55 ms i).f0 (rd_T55 ms i).f1 t ∧ ((rd_T55 ms i).f0 = (rd_T55 ms i).f1 → t = [])
/-- the pieces at the i-th motion, the last one of which ended at p -/
def Pcs (ms : List S55) (i : Nat) (l : List S55) (p : S42) : Prop :=
  ∃ f t, l = f ++ t ∧ Full ms i f ∧ (i < ms.length → Chain (rd_T55 ms i) (rd_T55 ms i).f0 p t) ∧ (i = ms.length → t = [])
/-- what is left from the i-th motion on -/
noncomputable def rs (ms : List S55) (i : Nat) : Int := ((ms.drop i).map ln).sum
theorem rs_step {ms : List S55} {i : Nat} (h : i < ms.length) : rs ms i = ln (rd_T55 ms i) + rs ms (i + 1) := by
  unfold rs
  rw [List.drop_eq_getElem_cons h, List.map_cons, List.sum_cons]
  have e : rd_T55 ms (i : Int) = ms[i] := by simp [rd_T55, h]
  rw [e]
theorem rs_end {ms : List S55} {i : Nat} (h : ms.length ≤ i) : rs ms i = 0 := by
  unfold rs
  rw [List.drop_eq_nil_of_le h]
  rfl
theorem rs_nonneg {ms : List S55} {sp ac je : Int} (J : Job ms sp ac je) (d : Nat) : ∀ i, ms.length - i = d → 0 ≤ rs ms i ∧ rs ms i ≤ 1500 * d := by
  induction d with
  | zero => intro i h; rw [rs_end (by omega)]; omega
  | succ d ih =>
    intro i h
    have hi : i < ms.length := by omega
    have := ih (i + 1) (by omega)
    have l := ln_ok (J.mot i hi)
    have := l.lo
    have := l.hi
    rw [rs_step hi]
    omega
structure Inv (ms : List S55) (sp ac je : Int) (s : CS) (i : Nat) : Prop where
  eM : s.ms = ms
  eS : s.sp = sp
  eA : s.ac = ac
  eJ : s.je = je
  eB : s.brk = false
  eX : s.ix = i
  hi : i ≤ ms.length
  pcs : Pcs ms i s.pcs ⟨s.lx, s.ly, s.lz⟩
  fin : i = ms.length → s.pl = [] ∧ s.at_ = 0 ∧ s.pt = 0
  pos : i < ms.length → 0 < ln (rd_T55 ms i) ∧ 0 ≤ s.pt ∧ s.pt < ln (rd_T55 ms i)
  run : i < ms.length → (s.pl = [] ∧ s.at_ = 0) ∨ (∃ a : Nat, s.at_ = a ∧ a < s.pl.length ∧ s.pl.length ≤ 3000 ∧ (∀ x ∈ s.pl, 0 < x) ∧ s.pt + (s.pl.drop a).sum ≤ ln (rd_T55 ms i) ∧ (s.bra = false → 1 ≤ a ∧ s.pt + (s.pl.drop a).sum = ln (rd_T55 ms i)))
/-- motions without length are passed over -/
theorem skip_ex {ms : List S55} {sp ac je : Int} (J : Job ms sp ac je) (d : Nat) : ∀ i, ms.length - i = d → i ≤ ms.length →
    ∃ j : Nat, i ≤ j ∧ j ≤ ms.length ∧ (∀ k, d + 1 ≤ k → SkipTo k ms i j) ∧ (j < ms.length → 0 < ln (rd_T55 ms j)) ∧ rs ms j = rs ms i ∧ (∀ f, Full ms i f → Full ms j f) ∧ (j < ms.length → (rd_T55 ms i).f0 = (rd_T55 ms j).f0) := by
  induction d with
  | zero =>
    intro i h1 h2
    refine ⟨i, Nat.le_refl _, h2, fun k hk => ?_, fun h => by omega, rfl, fun _ h => h, fun _ => rfl⟩
    obtain ⟨k, rfl⟩ : ∃ m, k = m + 1 := ⟨k - 1, by omega⟩
    rw [SkipTo, if_neg (by omega)]
  | succ d ih =>
    intro i h1 h2
    have hi : i < ms.length := by omega
    have hl := J.len
    have l := ln_ok (J.mot i hi)
    obtain ⟨K, hK⟩ := l.f
    by_cases c : ln (rd_T55 ms i) = 0
    · obtain ⟨j, j1, j2, j3, j4, j5, j6, j7⟩ := ih (i + 1) (by omega) (by omega)
      have z := l.z c
      refine ⟨j, by omega, j2, fun k hk => ?_, j4, by rw [j5, rs_step hi, c]; omega, fun f hf => j6 f ⟨f, [], by simp, hf, z, fun _ => rfl⟩, fun hj => ?_⟩
      · obtain ⟨k, rfl⟩ : ∃ m, k = m + 1 := ⟨k - 1, by omega⟩
        rw [SkipTo, if_pos (by omega), w64 (x := (i : Int) + 1) (by omega) (by omega)]
        refine ⟨_, K, hK K (Nat.le_refl _), ?_⟩
        rw [if_pos c]
        have := j3 k (by omega)
        rw [Int.natCast_add] at this
        exact ⟨this, by omega⟩
      · rw [z, ← j7 hj]
        exact J.conn i (by omega)
    · refine ⟨i, Nat.le_refl _, h2, fun k hk => ?_, fun _ => by have := l.lo; omega, rfl, fun _ h => h, fun _ => rfl⟩
      obtain ⟨k, rfl⟩ : ∃ m, k = m + 1 := ⟨k - 1, by omega⟩
      rw [SkipTo, if_pos (by omega)]
      refine ⟨_, K, hK K (Nat.le_refl _), ?_⟩
      rw [if_neg c]
/-- the position at a part of the i-th motion -/
theorem pos_ex {ms : List S55} {sp ac je : Int} (J : Job ms sp ac je) {s : CS} {i : Nat} (h1 : s.ms = ms) (h2 : s.ix = i) (hi : i < ms.length) (h3 : 0 < ln (rd_T55 ms i)) (h4 : 0 ≤ s.pt) (h5 : s.pt ≤ ln (rd_T55 ms i)) :
    PosP s (posM (rd_T55 ms i) (ln (rd_T55 ms i)) s.pt).f0 (posM (rd_T55 ms i) (ln (rd_T55 ms i)) s.pt).f1 (posM (rd_T55 ms i) (ln (rd_T55 ms i)) s.pt).f2 := by
  have l := ln_ok (J.mot i hi)
  obtain ⟨K, hK⟩ := l.f
  right; right
  rw [h1, h2]
  exact ⟨by omega, by omega, by omega, K, _, 0, hK K (Nat.le_refl _), posS_of (J.mot i hi) h3 l.hi h4 h5⟩
theorem stop_ex {ms : List S55} {sp ac je : Int} (J : Job ms sp ac je) {s : CS} {i : Nat} (h1 : s.ms = ms) (h2 : s.sp = sp) (h3 : s.ac = ac) (h4 : s.je = je) (h5 : s.brk = false) (h6 : s.ix = i) (hi : i < ms.length) (h7 : 0 < ln (rd_T55 ms i)) (h8 : 0 ≤ s.pt) (h9 : s.pt ≤ ln (rd_T55 ms i))
    (hp : Pcs ms i s.pcs ⟨s.lx, s.ly, s.lz⟩) (hl : s.pcs.length ≤ 1000000) :
    ∃ s' j, StopP s s' ∧ Inv ms sp ac je s' j ∧ s'.held = s.held ∧ s'.bra = false ∧ s'.pl = [] ∧ s'.at_ = 0 ∧ rs ms j - s'.pt = rs ms i - s.pt ∧ s'.pcs.length ≤ s.pcs.length + 1 ∧ i ≤ j ∧ (s.pt = ln (rd_T55 ms i) → i + 1 ≤ j) := by
  have l := ln_ok (J.mot i hi)
  obtain ⟨K, hK⟩ := l.f
  obtain ⟨P, hP⟩ : ∃ P, posM (rd_T55 ms i) (ln (rd_T55 ms i)) s.pt = P := ⟨_, rfl⟩
  obtain ⟨b, hb⟩ : ∃ b : Bool, (!(s.lx == P.f0 && (s.ly == P.f1 && s.lz == P.f2))) = b := ⟨_, rfl⟩
  obtain ⟨p, hpe⟩ : ∃ p : S55, p = ⟨⟨s.lx, s.ly, s.lz⟩, P, (rd_T55 ms i).f2, (rd_T55 ms i).f3, (rd_T55 ms i).f4⟩ := ⟨_, rfl⟩
  have hpos := pos_ex (s := { s with pl := [], at_ := 0, bra := false }) J h1 h6 hi h7 h8 h9
  dsimp only at hpos
  rw [hP] at hpos
  have hpos2 := pos_ex (s := { s with pl := [], at_ := 0, bra := false, pcs := (if b = true then s.pcs ++ [p] else s.pcs) }) J h1 h6 hi h7 h8 h9
  dsimp only at hpos2
  rw [hP] at hpos2
  have hpiece : PieceP { s with pl := [], at_ := 0, bra := false } p b := by
    right
    refine ⟨?_, ?_, P.f0, P.f1, P.f2, hpos, ?_, hb.symm⟩
    · show 0 ≤ s.ix
      omega
    · show s.ix < (s.ms.length : Int)
      rw [h1]; omega
    · show p = ⟨⟨s.lx, s.ly, s.lz⟩, ⟨P.f0, P.f1, P.f2⟩, (rd_T55 s.ms s.ix).f2, (rd_T55 s.ms s.ix).f3, (rd_T55 s.ms s.ix).f4⟩
      rw [h1, h6]; exact hpe
  have hchain : ∃ f t, (if b = true then s.pcs ++ [p] else s.pcs) = f ++ t ∧ Full ms i f ∧ Chain (rd_T55 ms i) (rd_T55 ms i).f0 P t := by
    obtain ⟨f, t, e, hf, hc, -⟩ := hp
    have hc := hc hi
    by_cases c : b = true
    · rw [if_pos c, e, hpe]
      exact ⟨f, t ++ [⟨⟨s.lx, s.ly, s.lz⟩, P, (rd_T55 ms i).f2, (rd_T55 ms i).f3, (rd_T55 ms i).f4⟩], by rw [List.append_assoc], hf, hc.snoc⟩
    · rw [if_neg c, e]
      refine ⟨f, t, rfl, hf, ?_⟩
      rw [← hb] at c
      simp only [Bool.not_eq_true', Bool.not_eq_false, Bool.and_eq_true, beq_iff_eq] at c
      have : P = ⟨s.lx, s.ly, s.lz⟩ := by
        rcases P with ⟨p0, p1, p2⟩
        rw [S42.mk.injEq]
        exact ⟨c.1.symm, c.2.1.symm, c.2.2.symm⟩
      rw [this]; exact hc
  have hlen : (if b = true then s.pcs ++ [p] else s.pcs).length ≤ s.pcs.length + 1 := by
    split
    · rw [List.length_append]; simp
    · omega
  obtain ⟨f, t, e, hf, hc⟩ := hchain
  obtain ⟨pc, hpc⟩ : ∃ pc, (if b = true then s.pcs ++ [p] else s.pcs) = pc := ⟨_, rfl⟩
  have hlL := J.len
  have hlh := l.hi
  by_cases c : s.pt = ln (rd_T55 ms i)
  · obtain ⟨j, j1, j2, j3, j4, j5, j6, j7⟩ := skip_ex J (ms.length - (i + 1)) (i + 1) rfl (by omega)
    have hend : P = (rd_T55 ms i).f1 := by rw [← hP, c]; exact posM_end h7
    refine ⟨{ s with pl := [], at_ := 0, bra := false, pcs := pc, lx := P.f0, ly := P.f1, lz := P.f2, ix := j, pt := 0 }, j, ⟨p, b, P.f0, P.f1, P.f2, ln (rd_T55 ms i), K, hpiece, hl, hpos2, by rw [h6]; omega, by rw [h6, h1]; omega, ?_, ?_⟩, ⟨h1, h2, h3, h4, h5, rfl, j2, ?_, fun _ => ⟨rfl, rfl, rfl⟩, fun hj => ⟨j4 hj, Int.le_refl _, j4 hj⟩, fun _ => .inl ⟨rfl, rfl⟩⟩, rfl, rfl, rfl, rfl, ?_, ?_, by omega, fun _ => by omega⟩
    · rw [h1, h6]; exact hK K (Nat.le_refl _)
    · rw [w64 (x := ln (rd_T55 ms i) - s.pt) (by omega) (by omega), if_pos (by omega), h1, h6, w64 (x := (i : Int) + 1) (by omega) (by omega), hpc]
      have := j3 (ms.length - (i + 1) + 1) (Nat.le_refl _)
      rw [Int.natCast_add] at this
      exact ⟨_, _, by omega, this, rfl⟩
    · dsimp only
      rw [← hpc, e]
      refine ⟨f ++ t, [], by simp, j6 _ ⟨f, t, rfl, hf, by rw [← hend]; exact hc, fun z => absurd z (l.p (by omega))⟩, fun hj => ?_, fun _ => rfl⟩
      show (rd_T55 ms j).f0 = _
      rw [← j7 hj, ← J.conn i (by omega), ← hend]
    · dsimp only
      rw [j5, rs_step hi, c]; omega
    · dsimp only; rw [← hpc]; exact hlen
  · refine ⟨{ s with pl := [], at_ := 0, bra := false, pcs := pc, lx := P.f0, ly := P.f1, lz := P.f2 }, i, ⟨p, b, P.f0, P.f1, P.f2, ln (rd_T55 ms i), K, hpiece, hl, hpos2, by rw [h6]; omega, by rw [h6, h1]; omega, ?_, ?_⟩, ⟨h1, h2, h3, h4, h5, h6, by omega, ?_, fun hj => by omega, fun _ => ⟨h7, h8, (by omega : s.pt < ln (rd_T55 ms i))⟩, fun _ => .inl ⟨rfl, rfl⟩⟩, rfl, rfl, rfl, rfl, rfl, ?_, Nat.le_refl _, fun z => absurd z c⟩
    · rw [h1, h6]; exact hK K (Nat.le_refl _)
    · rw [w64 (x := ln (rd_T55 ms i) - s.pt) (by omega) (by omega), if_neg (by omega), hpc]
    · dsimp only
      rw [← hpc, e]
      exact ⟨f, t, rfl, hf, fun _ => hc, fun hj => by omega⟩
    · dsimp only; rw [← hpc]; exact hlen
end Go.Proofs.Ytmaegpblaihepaa.Pure
