/- slices.Clone of motions, by a contract. -/
import Derived.Test.YtmaegpblaihepaaCt
namespace Go.Proofs.Ytmaegpblaihepaa.F
open Go.RowKit Go.Proofs.YtmaegpblaihepaaW.PrintWords Go.Proofs.YtmaegpblaihepaaW.PrintLast Go.Proofs.YtmaegpblaihepaaW.PrintMore
set_option linter.unusedVariables false
set_option linter.unusedSimpArgs false
theorem eql_nil (A : Option Addr) (n c : Nat) (W : World) : (binOp .eql 30 (.slice A n c) (.slice none 0 0)).run Try.prog W = .ok (.bool A.isNone) W := by
 have h : ∀ d : Nat, (Op.equalIn (d + 1) 30 (.slice A n c) (.slice none 0 0)).run Try.prog W = .ok A.isNone W := fun d => by
  cases A <;> simp [Op.equalIn, run_underlying Try.underlying30]
 simp only [binOp]
 simp [Op.equal, Op.maxDepth, h 9999]
set_option maxRecDepth 100000 in
set_option maxHeartbeats 8000000 in
theorem slices_Clone.calls (A : Option Addr) (c : Nat) (xs : List S55) {w : World} (hr : Kd.C k55 w A xs.length xs) (hl : xs.length ≤ 1000000) : Calls Try.prog 22 #[.slice A xs.length c] w fun e w' => ∃ v, e = .returned v ∧ Kd.R k55 55 w' w.heap.size (fun _ => True) v xs ∧ Below w.heap.size w w' := by
 have hu30 := Try.underlying30
 have hu55 := Try.underlying55
 have HR := Aside0.mk hr
 have HL := Aside0.mk hl
 have hnil := eql_nil A xs.length c
 clear hl
 rcases A with _ | ad <;> dsimp only [Option.isNone] at hnil
 · have h0 : xs = [] := by
    rcases Nat.eq_zero_or_pos xs.length with h0 | h0
    · exact List.eq_nil_of_length_eq_zero h0
    · obtain ⟨ad, h, _⟩ := hr.2.2 h0
      cases h
   subst h0
   simp only [List.length_nil] at hnil
   clear hr HR HL
   go_enter Try.func22, Try.ntmps22
   go_wp2
   go_ret
   exact ⟨_, rfl, Kd.R_nil _ _ _ _ _, Below.refl _ _⟩
 · clear hr
   go_enter Try.func22, Try.ntmps22
   go_wp2_with (first | ((with_reducible refine gate_dst (N := 5) rfl ?_); refine Kd.R_lit k55 w.heap.size 55 ?hg (N := 5) ?hd (xs := ([] : List S55)) (inner := []) (ok := fun _ => True) (okp := fun _ => True) ?hr ?hp (fun _ hk => hk) trivial (Below.refl _ _) (Nat.le_refl _) (by simp) ?_; (case hd => rfl); (case hg => rfl); (case hr => first | (go_simp; done) | (go_simp; rfl)); (case hp => exact Reps.none _ _); intro vl wl hol hb hg_ hnew_; have HO := Aside0.mk hol; have HB := Aside0.mk hb; clear hg_ hnew_ hb hol) | ((with_reducible refine gate_dst (N := 7) rfl ?_); refine Kd.R_append_rows k55 (Rr := k55.K wl) w.heap.size rfl (.tmp 5) (.tmp 6) 30 55 _ 72 rfl hu30 info55 rfl (by decide) (by decide) vl [] xs (some ad) xs.length c (fun _ => True) (fun _ => False) rfl rfl HO.out (Kd.C_below HR.out HB.out) (fun x cs h => by have := k55_open h; subst this; exact k55_mkM _ _ _ _) (fun _ h => h.elim) (fun _ _ => trivial) HB.out (below_size HB.out) (by have := HL.out; simp only [List.length_nil]; omega) ?_; intro v1 w1 hR1 hB1 hg1 hat1; have HO1 := Aside0.mk hR1; have HB1 := Aside0.mk hB1; clear hR1 hB1 hg1 hat1))
   go_ret
   exact ⟨_, rfl, HO1.out, HB1.out⟩
end Go.Proofs.Ytmaegpblaihepaa.F
