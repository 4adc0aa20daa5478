/- finish, by a contract. -/
import Derived.Test.YtmaegpblaihepaaT7
namespace Go.Proofs.Ytmaegpblaihepaa.F
open Go.RowKit Go.Proofs.YtmaegpblaihepaaW.PrintWords Go.Proofs.YtmaegpblaihepaaW.PrintLast Go.Proofs.YtmaegpblaihepaaW.PrintMore
attribute [local go_sem] max2_int min2_int max_two min_two max_three min_three max_four min_four
set_option linter.unusedVariables false
set_option linter.unusedSimpArgs false
/-- ticks until motion n is reached -/
def FinP : Nat → CS → CS → Int → Int → Prop
 | 0, _, _, _, _ => False
 | k + 1, s, s', n, i => if s.ix < n then (i ≤ 20000 ∧ ∃ s1 s2, BeginP s s1 ∧ AdvP s1 s2 ∧ FinP k s2 s' n (wrap64 (i + 1))) else s' = s
set_option maxRecDepth 100000 in
set_option maxHeartbeats 8000000 in
theorem swarftop_finish.calls (k : Nat) (n : Int) (s' : CS) {B g : Nat} {s : CS} {w : World} (hs : Ctl B w g s) (hf : FinP k s s' n 0) : Calls Try.prog 13 #[.pointer (some ⟨g, 0, none⟩), .int .i64 n] w fun e w' => e = .returned (.bool true) ∧ Ctl B w' g s' ∧ Below B w w' := by
 have HS := Aside0.mk hs
 have HF := Aside0.mk hf
 clear hs hf
 go_enter Try.func13, Try.ntmps13
 go_upto_block 0 with (fail)
 go_wp2_with (fail)
 go_loopg [5] k (fun kq v5 w' => ∃ (i : Int) (s : CS), v5 = .int .i64 i ∧ Aside0 (FinP kq s s' n i) ∧ Aside0 (kq ≤ k) ∧ Aside0 (Ctl B w' g s) ∧ Aside0 (Below B w w'))
 case atStart => exact ⟨0, s, rfl, HF, ⟨Nat.le_refl _⟩, HS, ⟨Below.refl _ _⟩⟩
 case round =>
  clear HS HF s
  obtain ⟨i, s, rfl, HF, HK, HS, HB⟩ := hrel
  cases gk with
  | zero => exact absurd HF.out (by simp [FinP])
  | succ k1 =>
   have h := HF.out
   clear HF
   simp only [FinP] at h
   by_cases c : s.ix < n
   · rw [if_pos c] at h
     have cb : decide (s.ix < n) = true := decide_eq_true c
     clear c
     obtain ⟨hi, s1, s2, hbe, had, hf⟩ := h
     have cb2 : decide (20000 < i) = false := decide_eq_false (by omega)
     have HBE := Aside0.mk hbe
     have HAD := Aside0.mk had
     have HF := Aside0.mk hf
     clear hi hbe had hf
     go_wp2_with (first | (go_at_call 11; (with_reducible refine (controller_Index.calls HS.out).mono ?_); rintro e w2 ⟨rfl, hb⟩; have HS2 := Aside0.mk (HS.out.below hb); have HB2 := Aside0.mk (below_then HB.out HS.out.le hb); clear hb) | (go_at_call 7; (with_reducible refine (controller_Tick.go s2 s1 HS2.out HBE.out HAD.out).mono ?_); rintro e w3 ⟨rfl, hs3, hb3⟩; have HS3 := Aside0.mk hs3; have HB3 := Aside0.mk (HB2.out.trans hb3); clear hs3 hb3))
     go_roundg k1
     case measure => have := HK.out; omega
     case rel => exact ⟨(wrap64 (i + 1)), s2, (by first | rfl | (simp; done) | (simp [*]; done)), HF, ⟨by have := HK.out; omega⟩, HS3, HB3⟩
   · rw [if_neg c] at h
     have cb : decide (s.ix < n) = false := decide_eq_false c
     clear c
     subst h
     go_wp2_with (first | (go_at_call 11; (with_reducible refine (controller_Index.calls HS.out).mono ?_); rintro e w2 ⟨rfl, hb⟩; have HS2 := Aside0.mk (HS.out.below hb); have HB2 := Aside0.mk (below_then HB.out HS.out.le hb); clear hb))
     go_ret
     exact ⟨rfl, HS2.out, HB2.out⟩
end Go.Proofs.Ytmaegpblaihepaa.F
