/- The law ProfileSteps, told of numbers alone. -/
import Derived.Test.YtdfilkofhgmakaaMathG
import Derived.Test.YtdfilkofhgmakaaFs29
import Derived.OpenShut
import Derived.Lib.Hide
namespace Go.Proofs.Ytdfilkofhgmakaa.Pure
open Go.RowKit Go.Proofs.Ytdfilkofhgmakaa.F Go.Proofs.YtdfilkofhgmakaaW.PrintWords Go.Proofs.YtdfilkofhgmakaaW.PrintLast Go.Proofs.YtdfilkofhgmakaaW.PrintMore
set_option linter.unusedVariables false
set_option linter.unusedSimpArgs false
/-- the distance of the simple method -/
def simU (S A J : Int) : Int := mn (mn S A) (wrap64 (Int.tdiv J 2))
theorem simU_ok {S A J : Int} (h : okL S A J) : 1 ≤ simU S A J ∧ simU S A J ≤ S ∧ simU S A J ≤ A ∧ 2 * simU S A J ≤ J := by
  unfold okL at h
  unfold simU
  rw [Int.tdiv_eq_ediv_of_nonneg (by omega), w64 (by omega) (by omega)]
  unfold mn
  split <;> split <;> omega
def ticksS (n S A J : Int) : Int × Int :=
  if okL S A J ∧ 0 ≤ n then (if n > 1000000000000 then (0, 3) else ((n + simU S A J - 1) / simU S A J, 0)) else (0, 1)
theorem ticks_j0 (n S A J : Int) (b : Bool) (k : Nat) : swarfref49_Ticks.j0 k n b S A J = profile_Ticks.j0 k n b S A J := by
  cases k with
  | zero => rfl
  | succ k => simp only [swarfref49_Ticks.j0, profile_Ticks.j0, profile_Limits_simple.f, Option.bind_some]
theorem rticks_f (n S A J : Int) (k : Nat) : swarfref49_Ticks.f k n S A J = profile_Ticks.f k n S A J := by
  unfold swarfref49_Ticks.f profile_Ticks.f
  rw [valid_f, rvalid_f]
  simp only [Option.bind_some, ticks_j0]
theorem ticks_f (n S A J : Int) (k : Nat) (hk : 1 ≤ k) : profile_Ticks.f k n S A J = some (ticksS n S A J) := by
  obtain ⟨k, rfl⟩ : ∃ m, k = m + 1 := ⟨k - 1, by omega⟩
  unfold profile_Ticks.f ticksS
  rw [valid_f]
  simp only [Option.bind_some]
  by_cases o : okL S A J
  · rw [if_pos o, if_pos rfl, profile_Ticks.j0]
    by_cases c : n < 0
    · rw [if_pos (by simpa using c), if_neg (by omega)]
    · rw [if_neg (by simpa using c), if_pos (show okL S A J ∧ 0 ≤ n from ⟨o, by omega⟩)]
      by_cases d : n > 1000000000000
      · rw [if_pos d, if_pos d]
      · have u := simU_ok o
        rw [if_neg d, if_neg d]
        unfold profile_Limits_simple.f
        simp only [Option.bind_some]
        rw [show mn (mn S A) (wrap64 (Int.tdiv J 2)) = simU S A J from rfl]
        unfold okL at o
        have q := Int.ediv_le_self (simU S A J) (show 0 ≤ n + simU S A J - 1 by omega)
        have q0 := Int.ediv_nonneg (show 0 ≤ n + simU S A J - 1 by omega) (show 0 ≤ simU S A J by omega)
        rw [if_neg (by omega), w64 (x := n + simU S A J) (by omega) (by omega), w64 (x := n + simU S A J - 1) (by omega) (by omega), Int.tdiv_eq_ediv_of_nonneg (by omega), w64 (by omega) (by omega)]
  · rw [if_neg o, if_neg (by omega), profile_Ticks.j0, if_pos rfl, if_neg (by simp [o])]
theorem sum_l0 (l : List Int) (hn : (l.length : Int) ≤ 100000000000) (hp : ∀ x ∈ l, 0 ≤ x ∧ x ≤ 100000) (d : Nat) : ∀ (k i : Nat) (acc : Int), l.length - i = d → i ≤ l.length → d < k → 0 ≤ acc → acc + 100000 * (d : Int) ≤ 1000000000000000000 →
    swarfref49_Sum.l0 k l acc i = some (acc + (l.drop i).sum) := by
  induction d with
  | zero =>
    intro k i acc h1 h2 h3 h4 h5
    obtain ⟨k, rfl⟩ : ∃ m, k = m + 1 := ⟨k - 1, by omega⟩
    rw [swarfref49_Sum.l0, if_neg (by omega), List.drop_eq_nil_of_le (by omega)]; simp
  | succ d ih =>
    intro k i acc h1 h2 h3 h4 h5
    obtain ⟨k, rfl⟩ : ∃ m, k = m + 1 := ⟨k - 1, by omega⟩
    have hi : i < l.length := by omega
    have er : rd l (i:Int) = l[i] := by unfold rd; simp [hi]
    have hd : l.drop i = l[i] :: l.drop (i+1) := List.drop_eq_getElem_cons hi
    have b := hp l[i] (List.getElem_mem hi)
    have nx := ih k (i+1) (acc + l[i]) (by omega) (by omega) (by omega) (by omega) (by omega)
    rw [show ((i+1 : Nat) : Int) = (i:Int)+1 by omega] at nx
    rw [swarfref49_Sum.l0, if_pos (by omega), if_pos (by omega), er, w64 (x := acc + l[i]) (by omega) (by omega), w64 (x := (i:Int)+1) (by omega) (by omega), nx, hd, List.sum_cons, Int.add_assoc]
theorem sum_f (l : List Int) (hn : (l.length : Int) ≤ 100000000000) (hp : ∀ x ∈ l, 0 ≤ x ∧ x ≤ 100000) (k : Nat) (hk : l.length < k) : swarfref49_Sum.f k l = some l.sum := by
  unfold swarfref49_Sum.f
  have := sum_l0 l hn hp l.length k 0 0 (by omega) (by omega) hk (by omega) (by omega)
  rw [List.drop_zero, Int.zero_add] at this
  exact this

theorem rd_at (l : List Int) (i : Nat) (hi : i < l.length) : rd l (i:Int) = l[i] := by unfold rd; simp [hi]
theorem rd_last (l : List Int) (x : Int) (hl : l.length < 17592186044416) : wrap64 (((l ++ [x]).length : Int) - 1) = (l.length : Int) ∧ rd (l ++ [x]) (l.length : Int) = x := by
  have e : ((l ++ [x]).length : Int) = (l.length : Int) + 1 := by rw [List.length_append]; simp
  constructor
  · rw [e, w64 (by omega) (by omega)]; omega
  · rw [rd_at _ l.length (by rw [List.length_append]; simp)]; simp
/-- one round of the simple method -/
theorem steps_rd (k : Nat) (out : List Int) (u rest : Int) (hu : 1 ≤ u ∧ u ≤ 100000) (hr : 1 ≤ rest ∧ rest ≤ 1000000000000) (ho : out.length < 17592186044416) :
    profile_Steps.l0 (k+1) out u rest = profile_Steps.l0 k (out ++ [(rest - 1) % u + 1]) u (rest - ((rest - 1) % u + 1)) := by
  have b1 := Int.emod_nonneg (rest - 1) (show u ≠ 0 by omega)
  have b2 := Int.emod_lt_of_pos (rest - 1) (show 0 < u by omega)
  obtain ⟨e1, e2⟩ := rd_last out ((rest - 1) % u + 1) ho
  have e3 : ((out ++ [(rest - 1) % u + 1]).length : Int) = (out.length : Int) + 1 := by rw [List.length_append]; simp
  rw [profile_Steps.l0, if_pos (by omega), if_neg (by omega), if_pos ho, w64 (x := rest - 1) (by omega) (by omega), Int.tmod_eq_emod_of_nonneg (by omega), w64 (x := (rest - 1) % u + 1) (by omega) (by omega)]
  simp only [Option.bind_some]
  rw [e1, if_pos (by omega), if_pos (by omega), e2, w64 (by omega) (by omega)]
theorem steps_rep (u : Int) (hu : 1 ≤ u ∧ u ≤ 100000) (m : Nat) : ∀ (k : Nat) (out : List Int), (out.length : Int) + m ≤ 1000000 → m < k → u * m ≤ 1000000000000 → profile_Steps.l0 k out u (u * m) = some (out ++ List.replicate m u, 0) := by
  induction m with
  | zero =>
    intro k out h1 h2 _
    obtain ⟨k, rfl⟩ : ∃ m, k = m + 1 := ⟨k - 1, by omega⟩
    rw [profile_Steps.l0, if_neg (by simp)]; simp
  | succ m ih =>
    intro k out h1 h2 h3
    obtain ⟨k, rfl⟩ : ∃ m, k = m + 1 := ⟨k - 1, by omega⟩
    have e : u * ((m + 1 : Nat) : Int) = u * m + u := by rw [Int.natCast_add, Int.mul_add]; simp
    have p : 0 ≤ u * (m : Int) := Int.mul_nonneg (by omega) (by omega)
    rw [e] at h3
    have em : (u * (m : Int) + u - 1) % u = u - 1 := by
      rw [show u * (m : Int) + u - 1 = (u - 1) + u * m by omega, Int.add_mul_emod_self_left, Int.emod_eq_of_lt (by omega) (by omega)]
    rw [e, steps_rd k out u _ hu (by omega) (by omega), em, show u * (m : Int) + u - (u - 1 + 1) = u * m by omega, show u - 1 + 1 = u by omega, ih k (out ++ [u]) (by rw [List.length_append]; simp; omega) (by omega) (by omega)]
    rw [List.append_assoc, List.singleton_append, ← List.replicate_succ]
theorem smo_rep {S A J u : Int} (h : 1 ≤ u ∧ u ≤ S ∧ u ≤ A ∧ 2 * u ≤ J) (m : Nat) : ∀ a : Int, 0 ≤ a → a ≤ u → smo S A J u a (List.replicate m u) = true := by
  induction m with
  | zero =>
    intro a h1 h2
    have o1 : okStep S A J u a 0 := by unfold okStep; omega
    have o2 : okStep S A J 0 (0-u) 0 := by unfold okStep; omega
    simp only [List.replicate_zero, smo, o1, o2, decide_true, Bool.and_self]
  | succ m ih =>
    intro a h1 h2
    have o1 : okStep S A J u a u := by unfold okStep; omega
    rw [List.replicate_succ]
    simp only [smo, o1, decide_true, Bool.true_and, Int.sub_self]
    exact ih 0 (by omega) (by omega)
theorem smo_simple {S A J u x : Int} (h : 1 ≤ u ∧ u ≤ S ∧ u ≤ A ∧ 2 * u ≤ J) (hx : 1 ≤ x ∧ x ≤ u) (m : Nat) : smo S A J 0 0 (x :: List.replicate m u) = true := by
  have o0 : okStep S A J 0 0 x := by unfold okStep; omega
  simp only [smo, o0, decide_true, Bool.true_and, Int.sub_zero]
  cases m with
  | zero =>
    have o1 : okStep S A J x x 0 := by unfold okStep; omega
    have o2 : okStep S A J 0 (0-x) 0 := by unfold okStep; omega
    simp only [List.replicate_zero, smo, o1, o2, decide_true, Bool.and_self]
  | succ m =>
    have o1 : okStep S A J x x u := by unfold okStep; omega
    rw [List.replicate_succ]
    simp only [smo, o1, decide_true, Bool.true_and]
    exact smo_rep h m (u - x) (by omega) (by omega)
theorem sum_rep (u : Int) (m : Nat) : (List.replicate m u).sum = u * m := by
  induction m with
  | zero => simp
  | succ m ih => rw [List.replicate_succ, List.sum_cons, ih, Int.natCast_add, Int.mul_add]; simp; omega
/-- what the simple method tells -/
theorem simple_f {S A J len : Int} (h : okL S A J) (hl : 0 ≤ len ∧ len ≤ 1000000000000) (hn : (len + simU S A J - 1) / simU S A J ≤ 5000) :
    ∃ (L : List Int) (K : Nat), (∀ k, K ≤ k → profile_Steps.l0 k [] (simU S A J) len = some (L, 0)) ∧ L.sum = len ∧ (∀ x ∈ L, 0 < x) ∧ (L.length : Int) ≤ (len + simU S A J - 1) / simU S A J ∧ smo S A J 0 0 L = true := by
  have u := simU_ok h
  obtain ⟨w, hw⟩ : ∃ w, simU S A J = w := ⟨_, rfl⟩
  rw [hw] at u hn ⊢
  clear hw
  have h' := h
  unfold okL at h'
  by_cases c : len = 0
  · subst c
    have o0 : okStep S A J 0 0 0 := by unfold okStep; omega
    refine ⟨[], 1, fun k hk => ?_, by simp, by simp, ?_, by simp only [smo, o0, Int.sub_self, decide_true, Bool.and_self]⟩
    · obtain ⟨k, rfl⟩ : ∃ m, k = m + 1 := ⟨k - 1, by omega⟩
      rw [profile_Steps.l0, if_neg (by omega)]
    · have := Int.ediv_nonneg (show 0 ≤ 0 + w - 1 by omega) (show 0 ≤ w by omega)
      simpa using this
  · have b1 := Int.emod_nonneg (len - 1) (show w ≠ 0 by omega)
    have b2 := Int.emod_lt_of_pos (len - 1) (show 0 < w by omega)
    have b3 := Int.mul_ediv_add_emod (len - 1) w
    have b4 := Int.ediv_nonneg (show 0 ≤ len - 1 by omega) (show 0 ≤ w by omega)
    have b5 : (len + w - 1) / w = (len - 1) / w + 1 := by
      rw [show len + w - 1 = (len - 1) + w * 1 by omega, Int.add_mul_ediv_left _ _ (by omega)]
    obtain ⟨q, hq⟩ : ∃ q : Nat, (len - 1) / w = q := ⟨((len - 1) / w).toNat, by omega⟩
    rw [hq] at b3 b4 b5
    rw [b5] at hn ⊢
    obtain ⟨x, hx⟩ : ∃ x, (len - 1) % w + 1 = x := ⟨_, rfl⟩
    have ex : len - x = w * q := by omega
    refine ⟨x :: List.replicate q w, q + 2, fun k hk => ?_, ?_, ?_, ?_, smo_simple u (by omega) q⟩
    · obtain ⟨k, rfl⟩ : ∃ m, k = m + 1 := ⟨k - 1, by omega⟩
      rw [steps_rd k [] w len (by omega) (by omega) (by simp), hx, ex, steps_rep w (by omega) q k _ (by simp; omega) (by omega) (by omega)]
      rfl
    · rw [List.sum_cons, sum_rep]; omega
    · intro y hy
      rcases List.mem_cons.1 hy with rfl | hy
      · omega
      · have := List.eq_of_mem_replicate hy; omega
    · rw [List.length_cons, List.length_replicate]; omega
/-- what Steps tells, in few ticks -/
theorem steps_f {S A J len : Int} (h : okL S A J) (hl : 0 ≤ len ∧ len ≤ 1000000000000) (hn : (len + simU S A J - 1) / simU S A J ≤ 3000) :
    ∃ (L : List Int) (K : Nat), (∀ k, K ≤ k → profile_Steps.f k len S A J = some (L, 0)) ∧ L.sum = len ∧ (∀ x ∈ L, 0 < x) ∧ (L.length : Int) ≤ (len + simU S A J - 1) / simU S A J ∧ smo S A J 0 0 L = true := by
  have u := simU_ok h
  have n0 := Int.ediv_nonneg (show 0 ≤ len + simU S A J - 1 by omega) (show 0 ≤ simU S A J by omega)
  have et : ∀ k, 1 ≤ k → profile_Ticks.f k len S A J = some ((len + simU S A J - 1) / simU S A J, 0) := by
    intro k hk
    rw [ticks_f len S A J k hk]
    unfold ticksS
    rw [if_pos ⟨h, hl.1⟩, if_neg (by omega)]
  obtain ⟨L, ok, K, p1, p2⟩ := fast_f (len := len) h (n := (len + simU S A J - 1) / simU S A J) ⟨n0, by omega⟩ hl
  cases ok with
  | true =>
    obtain ⟨q1, q2, q3, q4⟩ := p2 rfl
    refine ⟨L, K + 1, fun k hk => ?_, q1, q2, q3, q4⟩
    unfold profile_Steps.f
    rw [et k (by omega)]
    simp only [Option.bind_some]
    rw [if_pos trivial, if_neg (by omega), p1 k (by omega)]
    simp only [Option.bind_some, if_true]
  | false =>
    obtain ⟨L', K', r1, r2, r3, r4, r5⟩ := simple_f h hl (by omega)
    refine ⟨L', K + K' + 1, fun k hk => ?_, r2, r3, r4, r5⟩
    unfold profile_Steps.f
    rw [et k (by omega)]
    simp only [Option.bind_some]
    rw [if_pos trivial, if_neg (by omega), p1 k (by omega)]
    simp only [Option.bind_some]
    rw [if_neg (by decide)]
    unfold profile_Limits_simple.f
    simp only [Option.bind_some]
    rw [show mn (mn S A) (wrap64 (Int.tdiv J 2)) = simU S A J from rfl]
    exact r1 k (by omega)
theorem smo_le {S A J : Int} (L : List Int) : ∀ v a, smo S A J v a L = true → ∀ x ∈ L, 0 ≤ x ∧ x ≤ S := by
  induction L with
  | nil => intro v a _ x hx; simp at hx
  | cons y L ih =>
    intro v a hs x hx
    simp only [smo, Bool.and_eq_true, decide_eq_true_eq] at hs
    rcases List.mem_cons.1 hx with rfl | hx
    · exact ⟨hs.1.1, hs.1.2.1⟩
    · exact ih _ _ hs.2 x hx
theorem steps_l0 (len : Int) (L : List Int) (hn : (L.length : Int) ≤ 100000) (hp : ∀ x ∈ L, 0 < x ∧ x ≤ 100000) (d : Nat) : ∀ (k i : Nat), L.length - i = d → i ≤ L.length → d + L.length + 2 ≤ k → swarflaw49_ProfileSteps.l0 k len L L (L.length : Int) i = some (L.sum == len) := by
  induction d with
  | zero =>
    intro k i h1 h2 h3
    obtain ⟨k, rfl⟩ : ∃ m, k = m + 1 := ⟨k - 1, by omega⟩
    rw [swarflaw49_ProfileSteps.l0, if_neg (by omega), sum_f L (by omega) (fun x hx => ⟨by have := hp x hx; omega, (hp x hx).2⟩) k (by omega)]
    rfl
  | succ d ih =>
    intro k i h1 h2 h3
    obtain ⟨k, rfl⟩ : ∃ m, k = m + 1 := ⟨k - 1, by omega⟩
    have hi : i < L.length := by omega
    have b := hp L[i] (List.getElem_mem hi)
    have nx := ih k (i+1) (by omega) (by omega) (by omega)
    rw [show ((i+1 : Nat) : Int) = (i:Int)+1 by omega] at nx
    rw [swarflaw49_ProfileSteps.l0, if_pos (by omega), if_pos (by omega), if_pos (by omega), rd_at L i hi, if_neg (by omega), w64 (x := (i:Int)+1) (by omega) (by omega)]
    exact nx
theorem law_steps (len S A J : Int) : ∃ k, swarflaw49_ProfileSteps.f k len S A J = some true := by
  have tt : ∀ k, 1 ≤ k → profile_Ticks.f k len S A J = some (ticksS len S A J) := fun k hk => ticks_f len S A J k hk
  have bad : ∀ e : Int, e ≠ 0 → ticksS len S A J = (0, e) → ∃ k, swarflaw49_ProfileSteps.f k len S A J = some true := by
    intro e he ht
    refine ⟨102, ?_⟩
    unfold swarflaw49_ProfileSteps.f
    rw [awake_at 102 (by omega), rticks_f, tt 102 (by omega), ht]
    simp only [Option.bind_some, if_true]
    rw [if_neg he, swarflaw49_ProfileSteps.j0, if_neg (by decide)]
    unfold swarflaw49_theirs.f profile_Steps.f swarfref49_Error.f
    simp only [Option.bind_some, rticks_f, tt 101 (by omega), ht]
    rw [if_neg he, if_neg he]
    simp only [Option.bind_some]
    rw [if_neg he, if_pos trivial]
    rfl
  by_cases o : okL S A J ∧ 0 ≤ len
  · by_cases g : len > 1000000000000
    · exact bad 3 (by decide) (by unfold ticksS; rw [if_pos o, if_pos g])
    · have ht : ticksS len S A J = ((len + simU S A J - 1) / simU S A J, 0) := by unfold ticksS; rw [if_pos o, if_neg g]
      obtain ⟨h, hl⟩ := o
      obtain ⟨n, hn⟩ : ∃ n, (len + simU S A J - 1) / simU S A J = n := ⟨_, rfl⟩
      rw [hn] at ht
      by_cases c3 : n > 3000
      · by_cases c4 : n ≤ 100000
        · refine ⟨102, ?_⟩
          unfold swarflaw49_ProfileSteps.f
          rw [awake_at 102 (by omega), rticks_f, tt 102 (by omega), ht]
          simp only [Option.bind_some, if_true]
          rw [if_pos c3, decide_eq_true c4, swarflaw49_ProfileSteps.j0, if_pos rfl]
        · refine ⟨102, ?_⟩
          unfold swarflaw49_ProfileSteps.f
          rw [awake_at 102 (by omega), rticks_f, tt 102 (by omega), ht]
          simp only [Option.bind_some, if_true]
          rw [if_pos c3, decide_eq_false c4, swarflaw49_ProfileSteps.j0, if_neg (by decide)]
          unfold swarflaw49_theirs.f profile_Steps.f swarfref49_Error.f
          simp only [Option.bind_some, rticks_f, tt 101 (by omega), ht]
          rw [if_pos trivial, if_pos (by omega), if_pos trivial, if_pos (by omega)]
          rfl
      · obtain ⟨L, K, p1, p2, p3, p4, p5⟩ := steps_f h ⟨hl, by omega⟩ (by omega)
        rw [hn] at p4
        have h' := h
        unfold okL at h'
        have hb := smo_le L 0 0 p5
        have hp : ∀ x ∈ L, 0 < x ∧ x ≤ 100000 := fun x hx => ⟨p3 x hx, by have := hb x hx; omega⟩
        refine ⟨K + 3 * L.length + 120, ?_⟩
        unfold swarflaw49_ProfileSteps.f
        rw [awake_at _ (by omega), rticks_f, tt _ (by omega), ht]
        simp only [Option.bind_some, if_true]
        rw [if_neg c3, show K + 3 * L.length + 120 = (K + 3 * L.length + 119) + 1 by omega, swarflaw49_ProfileSteps.j0, if_neg (by decide)]
        unfold swarflaw49_theirs.f swarfref49_Error.f
        simp only [Option.bind_some, rticks_f, tt (K + 3 * L.length + 119) (by omega), ht, p1 (K + 3 * L.length + 119) (by omega)]
        rw [if_pos trivial, if_neg (by omega)]
        simp only [Option.bind_some, if_true]
        rw [if_neg (by omega), smooth_f L S A J (by omega) _ (by omega), p5, decide_eq_true h]
        simp only [Option.bind_some, Bool.and_self, Bool.not_true]
        rw [show K + 3 * L.length + 119 = (K + 3 * L.length + 118) + 1 by omega, swarflaw49_ProfileSteps.j1, if_neg (by decide)]
        have := steps_l0 len L (by omega) hp L.length (K + 3 * L.length + 118) 0 (by omega) (by omega) (by omega)
        rw [p2] at this
        simpa using this
  · exact bad 1 (by decide) (by unfold ticksS; rw [if_neg o])

end Go.Proofs.Ytdfilkofhgmakaa.Pure
