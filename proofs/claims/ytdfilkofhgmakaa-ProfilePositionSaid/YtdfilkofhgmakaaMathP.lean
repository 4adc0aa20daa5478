/- Plain facts: the position of the reference is that of the program. -/
import Derived.Test.YtdfilkofhgmakaaMathA
import Derived.Test.YtdfilkofhgmakaaFx17
import Derived.Test.YtdfilkofhgmakaaFx36
import Derived.OpenShut
namespace Go.Proofs.Ytdfilkofhgmakaa.Pure
open Go.RowKit Go.Proofs.Ytdfilkofhgmakaa.F Go.Proofs.YtdfilkofhgmakaaW.PrintWords Go.Proofs.YtdfilkofhgmakaaW.PrintLast Go.Proofs.YtdfilkofhgmakaaW.PrintMore
set_option linter.unusedVariables false
set_option linter.unusedSimpArgs false
theorem far49_f (x : Int) : swarfref49_far.f x = some (!decide (Hand.inW x)) := by
  unfold swarfref49_far.f
  rw [rwithin_f]
  simp only [Option.bind_some]
  rfl
theorem between_f {f t part len : Int} (hf : Hand.inW f) (ht : Hand.inW t) (hl : Hand.inW len) (h0 : 0 ≤ part) (h1 : part ≤ len) (h2 : 1 ≤ len) :
    swarfref49_between.f f t part len = some (Hand.at_ f t part len) := by
  unfold Hand.inW at hf ht hl
  have m := Hand.mulb2 (a := 2*(t-f)) (b := part) (A := 160000000) (B := 40000000) (by omega) (by omega) (by omega) (by omega) (by omega)
  have e := Hand.floor_eq (2*(t-f)*part+len) (2*len) (by omega)
  have q := Hand.div_b (a := 2*(t-f)*part+len) (b := 2*len) (by omega) (by omega) (by omega)
  unfold swarfref49_between.f Hand.at_
  rw [w64 (x := 2*len) (by omega) (by omega), if_neg (by omega), w64 (x := t - f) (by omega) (by omega), w64 (x := 2*(t-f)) (by omega) (by omega), w64 (x := 2*(t-f)*part) (by omega) (by omega), w64 (x := 2*(t-f)*part+len) (by omega) (by omega)]
  by_cases c : Int.tmod (2*(t-f)*part+len) (2*len) < 0
  · rw [if_pos c] at e
    rw [if_pos c, w64 (x := Int.tdiv (2*(t-f)*part+len) (2*len)) (by omega) (by omega), w64 (x := Int.tdiv (2*(t-f)*part+len) (2*len) - 1) (by omega) (by omega), ← e, w64 (by omega) (by omega)]
  · rw [if_neg c] at e
    rw [if_neg c, w64 (x := Int.tdiv (2*(t-f)*part+len) (2*len)) (by omega) (by omega), ← e, w64 (by omega) (by omega)]
theorem rpos_f (ax ay az bx by_ bz part len : Int) (k : Nat) (hk : 2 ≤ k) : swarfref49_Position.f k ax ay az bx by_ bz part len = Hand.posS ax ay az bx by_ bz part len := by
  obtain ⟨k, rfl⟩ : ∃ m, k = m + 2 := ⟨k - 2, by omega⟩
  unfold swarfref49_Position.f Hand.posS
  by_cases c1 : len < 1
  · rw [if_pos c1, if_pos (.inl c1), swarfref49_Position.j0, if_pos rfl]
  · rw [if_neg c1]
    by_cases c2 : part < 0
    · rw [if_pos c2, if_pos (.inr (.inl c2)), swarfref49_Position.j0, if_pos rfl]
    · rw [if_neg c2]
      by_cases c3 : part > len
      · rw [if_pos (show len < 1 ∨ part < 0 ∨ len < part from .inr (.inr c3)), decide_eq_true c3, swarfref49_Position.j0, if_pos rfl]
      · rw [if_neg (show ¬ (len < 1 ∨ part < 0 ∨ len < part) by omega), decide_eq_false c3, swarfref49_Position.j0, if_neg (by decide)]
        simp only [far49_f, Option.bind_some, Bool.not_eq_true', decide_eq_false_iff_not]
        have bad : ∀ (P : Prop) [Decidable P], ¬ P → swarfref49_Position.j1 (k+1) part len true ax ay az bx by_ bz = (if P then some (Hand.at_ ax bx part len, Hand.at_ ay by_ part len, Hand.at_ az bz part len, 0) else some (0, 0, 0, 11)) := by
          intro P _ hP
          rw [if_neg hP, swarfref49_Position.j1, if_pos rfl]
        by_cases m0 : Hand.inW len
        · rw [if_neg (by simpa using m0)]
          by_cases m1 : Hand.inW ax
          · rw [if_neg (by simpa using m1)]
            by_cases m2 : Hand.inW ay
            · rw [if_neg (by simpa using m2)]
              by_cases m3 : Hand.inW az
              · rw [if_neg (by simpa using m3)]
                by_cases m4 : Hand.inW bx
                · rw [if_neg (by simpa using m4)]
                  by_cases m5 : Hand.inW by_
                  · rw [if_neg (by simpa using m5)]
                    by_cases m6 : Hand.inW bz
                    · rw [if_pos (show Hand.inW len ∧ Hand.inW ax ∧ Hand.inW ay ∧ Hand.inW az ∧ Hand.inW bx ∧ Hand.inW by_ ∧ Hand.inW bz from ⟨m0, m1, m2, m3, m4, m5, m6⟩), swarfref49_Position.j1, decide_eq_true m6, if_neg (by decide),
                        between_f m1 m4 m0 (by omega) (by omega) (by omega), between_f m2 m5 m0 (by omega) (by omega) (by omega), between_f m3 m6 m0 (by omega) (by omega) (by omega)]
                      rfl
                    · rw [decide_eq_false m6]; exact bad _ (fun z => m6 z.2.2.2.2.2.2)
                  · rw [if_pos m5]; exact bad _ (fun z => m5 z.2.2.2.2.2.1)
                · rw [if_pos m4]; exact bad _ (fun z => m4 z.2.2.2.2.1)
              · rw [if_pos m3]; exact bad _ (fun z => m3 z.2.2.2.1)
            · rw [if_pos m2]; exact bad _ (fun z => m2 z.2.2.1)
          · rw [if_pos m1]; exact bad _ (fun z => m1 z.2.1)
        · rw [if_pos m0]; exact bad _ (fun z => m0 z.1)
theorem posS_some (ax ay az bx by_ bz part len : Int) : ∃ x y z e, Hand.posS ax ay az bx by_ bz part len = some (x, y, z, e) := by
  unfold Hand.posS
  split
  · exact ⟨_, _, _, _, rfl⟩
  · split
    · exact ⟨_, _, _, _, rfl⟩
    · exact ⟨_, _, _, _, rfl⟩

end Go.Proofs.Ytdfilkofhgmakaa.Pure
