/- Plain facts: what Valid and Quarters of the program and of the reference tell. The numbers are of int64. -/
import Derived.Test.YtblonchpophnkaaMathO
import Derived.Test.YtblonchpophnkaaFx8
import Derived.Test.YtblonchpophnkaaFx20
import Derived.OpenShut
namespace Go.Proofs.Ytblonchpophnkaa.Pure
open Go.RowKit Go.Proofs.Ytblonchpophnkaa.F Go.Proofs.YtblonchpophnkaaW.PrintWords Go.Proofs.YtblonchpophnkaaW.PrintLast Go.Proofs.YtblonchpophnkaaW.PrintMore
set_option linter.unusedVariables false
set_option linter.unusedSimpArgs false
def I64 (x : Int) : Prop := -9223372036854775808 ≤ x ∧ x ≤ 9223372036854775807
def ab (x : Int) : Int := if x < 0 then -x else x
theorem ab_nonneg (x : Int) : 0 ≤ ab x := by unfold ab; split <;> omega
theorem ab_zero {x : Int} : ab x = 0 ↔ x = 0 := by unfold ab; split <;> omega
theorem u64w {x : Int} : IntKind.u64.wrap x = x % 18446744073709551616 := by
  simp [IntKind.wrap, IntKind.signed, IntKind.bits]
theorem apart_f {a b : Int} (ha : I64 a) (hb : I64 b) : interpolate_apart.f a b = some (ab (a-b)) := by
  unfold I64 at ha hb
  unfold interpolate_apart.f ab
  simp only [u64w]
  by_cases h : a < b
  · rw [if_pos h, if_pos (by omega)]; congr 1; omega
  · rw [if_neg h, if_neg (by omega)]; congr 1; omega
theorem apart_r {a b : Int} (ha : I64 a) (hb : I64 b) : swarfref33_apart.f a b = some (ab (a-b)) := apart_f ha hb

/-- where a point lies on the axes, and its distance -/
def qd (x y : Int) : Int × Int :=
  if 0 < x ∧ y = 0 then (0, x) else if x = 0 ∧ 0 < y then (1, y) else if x < 0 ∧ y = 0 then (2, -x) else if x = 0 ∧ y < 0 then (3, -y) else (-1, 0)
def onq (x y : Int) : Prop := (x = 0 ∧ y ≠ 0) ∨ (x ≠ 0 ∧ y = 0)
instance (x y : Int) : Decidable (onq x y) := by unfold onq; infer_instance

theorem qd_off {x y : Int} (h : ¬ onq x y) : qd x y = (-1, 0) := by
  unfold onq at h; unfold qd
  rw [if_neg (by omega), if_neg (by omega), if_neg (by omega), if_neg (by omega)]
theorem qd_on {x y : Int} (h : onq x y) : 0 ≤ (qd x y).1 ∧ (qd x y).1 ≤ 3 ∧ (qd x y).2 = ab x + ab y ∧ 0 < (qd x y).2 := by
  unfold onq at h; unfold qd ab
  split
  · simp only; repeat' split
    all_goals omega
  · split
    · simp only; repeat' split
      all_goals omega
    · split
      · simp only; repeat' split
        all_goals omega
      · split
        · simp only; repeat' split
          all_goals omega
        · omega

def ptI (x y : Int) : Int := if onq x y then (qd x y).1 else 0
theorem point_f {px py pz cx cy : Int} (k : Nat) (hk : 3 ≤ k) (h1 : I64 px) (h2 : I64 py) (h3 : I64 cx) (h4 : I64 cy) :
    interpolate_point.f k px py pz cx cy = some (ptI (px-cx) (py-cy), (qd (px-cx) (py-cy)).2) := by
  obtain ⟨k, rfl⟩ : ∃ m, k = m + 3 := ⟨k - 3, by omega⟩
  unfold interpolate_point.f
  simp only [interpolate_point.j0, interpolate_point.j1, interpolate_point.j2, apart_f h1 h3, apart_f h2 h4, Option.bind_some]
  unfold ptI onq qd ab
  by_cases a : py = cy
  · by_cases b : px > cx
    · have e1 : 0 < px - cx := by omega
      have e2 : py - cy = 0 := by omega
      have e3 : ¬ px - cx < 0 := by omega
      have e4 : ¬ px - cx = 0 := by omega
      simp [a, b, e1, e3, e4]
    · by_cases c : px = cx
      · simp [a, c]
      · have e1 : ¬ 0 < px - cx := by omega
        have e3 : px - cx < 0 := by omega
        have e4 : ¬ px - cx = 0 := by omega
        have e5 : px < cx := by omega
        simp [a, b, c, e1, e3, e4, e5]
  · by_cases c : px = cx
    · by_cases b : py > cy
      · have e1 : 0 < py - cy := by omega
        have e3 : ¬ py - cy < 0 := by omega
        have e4 : ¬ py - cy = 0 := by omega
        simp [a, b, c, e1, e3, e4]
      · have e1 : ¬ 0 < py - cy := by omega
        have e3 : py - cy < 0 := by omega
        have e4 : ¬ py - cy = 0 := by omega
        have e5 : py < cy := by omega
        simp [a, b, c, e1, e3, e4, e5]
    · have e4 : ¬ py - cy = 0 := by omega
      have e5 : ¬ px - cx = 0 := by omega
      simp [a, c, e4, e5]

theorem quadrant_f {x y : Int} (k : Nat) (hk : 3 ≤ k) (h1 : -9223372036854775808 < x ∧ x ≤ 9223372036854775807) (h2 : -9223372036854775808 < y ∧ y ≤ 9223372036854775807) :
    swarfref33_quadrant.f k x y = some (qd x y) := by
  obtain ⟨k, rfl⟩ : ∃ m, k = m + 3 := ⟨k - 3, by omega⟩
  have w1 : wrap64 (-x) = -x := w64 (by omega) (by omega)
  have w2 : wrap64 (-y) = -y := w64 (by omega) (by omega)
  unfold swarfref33_quadrant.f
  simp only [swarfref33_quadrant.j0, swarfref33_quadrant.j1, swarfref33_quadrant.j2, w1, w2]
  unfold qd
  by_cases a : y = 0
  · by_cases b : 0 < x
    · simp [a, b]
    · by_cases c : x = 0
      · simp [a, c]
      · have e : x < 0 := by omega
        simp [a, b, c, e]
  · by_cases c : x = 0
    · by_cases b : 0 < y
      · simp [a, b, c]
      · have e : y < 0 := by omega
        simp [a, b, c, e]
    · simp [a, c]

def isarc (kind : Int) : Prop := kind = 3 ∨ kind = 4
instance (k : Int) : Decidable (isarc k) := by unfold isarc; infer_instance
def okline (kind rate : Int) : Prop := (kind = 1 ∧ rate = 0) ∨ (kind = 2 ∧ 0 < rate)
/-- a move that is an arc, apart from the range -/
def okarc (fx fy kind tx ty cx cy rate : Int) : Prop :=
  isarc kind ∧ 0 < rate ∧ onq (fx-cx) (fy-cy) ∧ onq (tx-cx) (ty-cy) ∧ ab (fx-cx) + ab (fy-cy) = ab (tx-cx) + ab (ty-cy)
instance (kind rate : Int) : Decidable (okline kind rate) := by unfold okline; infer_instance
instance (fx fy kind tx ty cx cy rate : Int) : Decidable (okarc fx fy kind tx ty cx cy rate) := by unfold okarc; infer_instance
def near (x : Int) : Prop := -10000000 ≤ x ∧ x ≤ 10000000
instance (x : Int) : Decidable (near x) := by unfold near; infer_instance
def ends (fx fy fz tx ty tz : Int) : Prop := near fx ∧ near fy ∧ near fz ∧ near tx ∧ near ty ∧ near tz
def round4 (cx cy r : Int) : Prop := near (cx+r) ∧ near (cx-r) ∧ near (cy+r) ∧ near (cy-r)
instance (fx fy fz tx ty tz : Int) : Decidable (ends fx fy fz tx ty tz) := by unfold ends; infer_instance
instance (cx cy r : Int) : Decidable (round4 cx cy r) := by unfold round4; infer_instance
/-- what Valid tells -/
def validS (fx fy fz kind tx ty tz cx cy rate : Int) : Int :=
  if okline kind rate then (if ends fx fy fz tx ty tz then 0 else 11)
  else if okarc fx fy kind tx ty cx cy rate then (if ends fx fy fz tx ty tz ∧ round4 cx cy (ab (fx-cx) + ab (fy-cy)) then 0 else 11)
  else 1

theorem isArc_f (a b c d e f g : Int) : interpolate_isArc.f a b c d e f g = some (decide (isarc a)) := by
  unfold interpolate_isArc.f isarc
  by_cases h : a = 3
  · simp [h]
  · by_cases h2 : a = 4 <;> simp [h, h2]
theorem arc_f (a b c d e f g : Int) : swarfref33_arc.f a b c d e f g = some (decide (isarc a)) := isArc_f a b c d e f g

theorem qd_pos_iff (x y : Int) : 0 < (qd x y).2 ↔ onq x y := by
  by_cases h : onq x y
  · simp [h, (qd_on h).2.2.2]
  · simp [h, qd_off h]

theorem right_f {fx fy fz kind tx ty tz cx cy rate : Int} (k : Nat) (hk : 3 ≤ k) (h1 : I64 fx) (h2 : I64 fy) (h3 : I64 tx) (h4 : I64 ty) (h5 : I64 cx) (h6 : I64 cy) :
    interpolate_right.f k fx fy fz kind tx ty tz cx cy rate = some (decide (okline kind rate ∨ okarc fx fy kind tx ty cx cy rate)) := by
  unfold interpolate_right.f
  simp only [point_f k hk h1 h2 h5 h6, point_f k hk h3 h4 h5 h6, isArc_f, Option.bind_some]
  by_cases a : kind = 1
  · have : ¬ isarc kind := by unfold isarc; omega
    rw [if_pos a]; unfold okline okarc; simp [a, this]
    by_cases r : rate = 0 <;> simp [r, isarc]
  · rw [if_neg a]
    by_cases b : kind = 2
    · have : ¬ isarc kind := by unfold isarc; omega
      rw [if_pos b]; unfold okline okarc; simp [b, isarc]
    · rw [if_neg b]
      by_cases c : isarc kind
      · simp only [c, decide_true, if_true]
        by_cases r : rate > 0
        · rw [if_pos r]
          by_cases p : onq (fx-cx) (fy-cy)
          · have P := qd_on p
            rw [if_pos P.2.2.2]
            by_cases q : onq (tx-cx) (ty-cy)
            · have Q := qd_on q
              unfold okline okarc
              simp only [P.2.2.1, Q.2.2.1, a, b, c, p, q, false_and, or_self, false_or, true_and, gt_iff_lt.mp r, Option.some.injEq]
              by_cases e : ab (fx-cx) + ab (fy-cy) = ab (tx-cx) + ab (ty-cy) <;> simp [e]
            · have h0 := (qd_on p).2.2.2
              unfold okline okarc
              simp only [qd_off q, a, b, q, false_and, and_false, or_self, decide_false, Option.some.injEq]
              simp; omega
          · rw [if_neg (by simp [qd_off p])]
            unfold okline okarc
            simp [a, b, p]
        · rw [if_neg r]
          unfold okline okarc
          simp [a, b]; intros; omega
      · simp [c, okline, okarc, a, b]

theorem far_f (x : Int) : swarfref33_far.f x = some (!decide (near x)) := by
  unfold swarfref33_far.f
  by_cases n : near x
  · have m := n
    unfold near at m
    rw [if_neg (by omega)]; congr 1; simp [n]; omega
  · have m := n
    unfold near at m
    by_cases a : x > 10000000
    · rw [if_pos a]; simp [n]
    · rw [if_neg a]; congr 1; simp [n]; omega

theorem rdcons0 (x : Int) (xs : List Int) : rd (x :: xs) 0 = x := rfl

/-- the loop over what must be near -/
theorem valid_l0 (xs : List Int) (hx : ∀ x ∈ xs, I64 x) (hn : xs.length ≤ 20) (d : Nat) : ∀ (k i : Nat), xs.length - i = d → i ≤ xs.length → d < k →
    interpolate_Valid.l0 k xs (xs.length : Int) (i : Int) = some (if ∀ x ∈ xs.drop i, near x then 0 else 11) := by
  induction d with
  | zero =>
    intro k i h1 h2 h3
    obtain ⟨k, rfl⟩ : ∃ m, k = m + 1 := ⟨k - 1, by omega⟩
    obtain rfl : i = xs.length := by omega
    simp only [interpolate_Valid.l0]
    rw [if_neg (by omega)]; simp
  | succ d ih =>
    intro k i h1 h2 h3
    obtain ⟨k, rfl⟩ : ∃ m, k = m + 1 := ⟨k - 1, by omega⟩
    have hi : i < xs.length := by omega
    have e1 : wrap64 ((i:Int) + 1) = ((i+1 : Nat) : Int) := by rw [w64 (by omega) (by omega)]; omega
    have e2 : rd xs (i:Int) = xs[i] := by unfold rd; simp [hi]
    have hd : xs.drop i = xs[i] :: xs.drop (i+1) := List.drop_eq_getElem_cons hi
    have hm := hx xs[i] (List.getElem_mem hi)
    simp only [interpolate_Valid.l0]
    rw [if_pos (by omega), if_pos (by omega), if_pos (by omega), e1, e2, apart_f hm (by unfold I64; omega), ih k (i+1) (by omega) (by omega) (by omega), hd]
    simp only [Option.bind_some, Int.sub_zero]
    have hab : ab xs[i] > 10000000 ↔ ¬ near xs[i] := by unfold ab near; split <;> omega
    by_cases a : near xs[i]
    · rw [if_neg (by rw [hab]; simpa using a)]; simp only [List.forall_mem_cons, a, true_and]
    · rw [if_pos (by rw [hab]; exact a)]; simp only [List.forall_mem_cons, a, false_and, if_false]
theorem valid_l0_all (xs : List Int) (hx : ∀ x ∈ xs, I64 x) (hn : xs.length ≤ 20) (k : Nat) (hk : 21 ≤ k) : interpolate_Valid.l0 k xs (xs.length : Int) 0 = some (if ∀ x ∈ xs, near x then 0 else 11) := by
  have := valid_l0 xs hx hn xs.length k 0 (by omega) (by omega) (by omega)
  simpa using this

theorem valid_f {fx fy fz kind tx ty tz cx cy rate : Int} (k : Nat) (hk : 30 ≤ k) (h1 : I64 fx) (h2 : I64 fy) (h2z : I64 fz) (h3 : I64 tx) (h4 : I64 ty) (h4z : I64 tz) (h5 : I64 cx) (h6 : I64 cy) :
    interpolate_Valid.f k fx fy fz kind tx ty tz cx cy rate = some (validS fx fy fz kind tx ty tz cx cy rate) := by
  unfold interpolate_Valid.f
  rw [right_f k (by omega) h1 h2 h3 h4 h5 h6]
  simp only [Option.bind_some, isArc_f, decide_eq_true_eq]
  by_cases a : okline kind rate ∨ okarc fx fy kind tx ty cx cy rate
  · rw [if_pos a]
    by_cases b : isarc kind
    · have nl : ¬ okline kind rate := by unfold okline; unfold isarc at b; omega
      have ar : okarc fx fy kind tx ty cx cy rate := a.resolve_left nl
      rw [if_pos b, point_f k (by omega) h1 h2 h5 h6]
      have P := qd_on ar.2.2.1
      simp only [Option.bind_some]
      rw [P.2.2.1]
      generalize hr : ab (fx-cx) + ab (fy-cy) = r at *
      have r0 : 0 < r := by omega
      unfold validS
      rw [if_neg nl, if_pos ar, hr]
      have hcx : ab (cx - 0) > 10000000 ↔ ¬ near cx := by unfold ab near; split <;> omega
      have hcy : ab (cy - 0) > 10000000 ↔ ¬ near cy := by unfold ab near; split <;> omega
      have imp : ends fx fy fz tx ty tz ∧ round4 cx cy r → near cx ∧ near cy ∧ r ≤ 10000000 := by
        unfold ends round4 near; omega
      by_cases c : r > 10000000
      · rw [if_pos c, if_neg (by intro h; have := imp h; omega)]
      · rw [if_neg c, apart_f h5 (by unfold I64; omega)]
        simp only [Option.bind_some]
        by_cases d : near cx
        · rw [if_neg (by rw [hcx]; simpa using d), apart_f h6 (by unfold I64; omega)]
          simp only [Option.bind_some]
          by_cases e : near cy
          · rw [if_neg (by rw [hcy]; simpa using e)]
            have d' := d
            have e' := e
            unfold near at d' e'
            rw [w64 (x := r) (by omega) (by omega), w64 (x := cx + r) (by omega) (by omega), w64 (x := cx - r) (by omega) (by omega), w64 (x := cy + r) (by omega) (by omega), w64 (x := cy - r) (by omega) (by omega)]
            rw [if_pos (by simp)]
            obtain ⟨k, rfl⟩ : ∃ m, k = m + 1 := ⟨k - 1, by omega⟩
            simp only [interpolate_Valid.j0]
            rw [valid_l0_all _ (by
              intro x hx
              simp only [List.cons_append, List.nil_append, List.mem_cons, List.not_mem_nil, or_false] at hx
              unfold I64 at *
              rcases hx with rfl | rfl | rfl | rfl | rfl | rfl | rfl | rfl | rfl | rfl <;> omega) (by simp) k (by omega)]
            congr 2
            simp [ends, round4, and_assoc]
          · rw [if_pos (by rw [hcy]; exact e), if_neg (fun h => e (imp h).2.1)]
        · rw [if_pos (by rw [hcx]; exact d), if_neg (fun h => d (imp h).1)]
    · have nr : ¬ okarc fx fy kind tx ty cx cy rate := fun h => b h.1
      have li : okline kind rate := a.resolve_right nr
      rw [if_neg b]
      obtain ⟨k, rfl⟩ : ∃ m, k = m + 1 := ⟨k - 1, by omega⟩
      simp only [interpolate_Valid.j0]
      rw [valid_l0_all _ (by
              intro x hx
              simp only [List.mem_cons, List.not_mem_nil, or_false] at hx
              unfold I64 at *
              rcases hx with rfl | rfl | rfl | rfl | rfl | rfl <;> omega) (by simp) k (by omega)]
      unfold validS
      rw [if_pos li]
      congr 2
      simp [ends]
  · rw [if_neg a]
    unfold validS
    rw [if_neg (fun h => a (.inl h)), if_neg (fun h => a (.inr h))]
theorem xor_onq (x y : Int) : ((ab x == 0) != (ab y == 0)) = decide (onq x y) := by
  have hx : (ab x == 0) = decide (x = 0) := by rw [Bool.eq_iff_iff]; simp [ab_zero]
  have hy : (ab y == 0) = decide (y = 0) := by rw [Bool.eq_iff_iff]; simp [ab_zero]
  rw [hx, hy]
  by_cases a : x = 0 <;> by_cases b : y = 0 <;> simp [a, b, onq]

theorem rright_f {fx fy fz kind tx ty tz cx cy rate : Int} (h1 : I64 fx) (h2 : I64 fy) (h3 : I64 tx) (h4 : I64 ty) (h5 : I64 cx) (h6 : I64 cy) :
    swarfref33_right.f fx fy fz kind tx ty tz cx cy rate = some (decide (onq (fx-cx) (fy-cy) ∧ onq (tx-cx) (ty-cy) ∧ ab (fx-cx) + ab (fy-cy) = ab (tx-cx) + ab (ty-cy))) := by
  unfold swarfref33_right.f
  simp only [apart_r h1 h5, apart_r h2 h6, apart_r h3 h5, apart_r h4 h6, Option.bind_some, xor_onq, decide_eq_true_eq]
  by_cases p : onq (fx-cx) (fy-cy)
  · rw [if_pos p]
    by_cases q : onq (tx-cx) (ty-cy)
    · rw [if_pos q]
      have e1 : IntKind.u64.wrap (ab (fx-cx) + ab (fy-cy)) = ab (fx-cx) + ab (fy-cy) := by
        rw [u64w]; unfold onq at p; unfold I64 at *; unfold ab; split <;> split <;> omega
      have e2 : IntKind.u64.wrap (ab (tx-cx) + ab (ty-cy)) = ab (tx-cx) + ab (ty-cy) := by
        rw [u64w]; unfold onq at q; unfold I64 at *; unfold ab; split <;> split <;> omega
      rw [e1, e2]; congr 1; rw [Bool.eq_iff_iff]; simp [p, q]
    · rw [if_neg q]; simp [q]
  · rw [if_neg p]; simp [p]

theorem j4_f {r kind tx ty tz cx cy rate : Int} (b : Bool) (k : Nat) (hk : 1 ≤ k) (h : b = false → -100000000 ≤ r ∧ r ≤ 100000000 ∧ near cx ∧ near cy) :
    swarfref33_Valid.j4 k r b kind tx ty tz cx cy rate = some (if b = true then 1 else if round4 cx cy r then 0 else 11) := by
  obtain ⟨k, rfl⟩ : ∃ m, k = m + 1 := ⟨k - 1, by omega⟩
  simp only [swarfref33_Valid.j4]
  cases b with
  | true => simp
  | false =>
    obtain ⟨a1, a2, a3, a4⟩ := h rfl
    unfold near at a3 a4
    rw [w64 (x := cx + r) (by omega) (by omega), w64 (x := cx - r) (by omega) (by omega), w64 (x := cy + r) (by omega) (by omega), w64 (x := cy - r) (by omega) (by omega)]
    simp only [far_f, Option.bind_some, round4, Bool.not_eq_true', decide_eq_false_iff_not, Bool.false_eq_true, if_false]
    by_cases c1 : near (cx + r) <;> by_cases c2 : near (cx - r) <;> by_cases c3 : near (cy + r) <;> by_cases c4 : near (cy - r) <;> simp [c1, c2, c3, c4]

theorem j3_f {fx fy fz kind tx ty tz cx cy rate : Int} (b : Bool) (k : Nat) (hk : 5 ≤ k) (h1 : I64 fx) (h2 : I64 fy) (h3 : I64 tx) (h4 : I64 ty) (h5 : I64 cx) (h6 : I64 cy)
    (h : b = false → near fx ∧ near fy ∧ near tx ∧ near ty ∧ near cx ∧ near cy) :
    swarfref33_Valid.j3 k b fx fy fz kind tx ty tz cx cy rate =
      some (if onq (fx-cx) (fy-cy) ∧ onq (tx-cx) (ty-cy) ∧ ab (fx-cx) + ab (fy-cy) = ab (tx-cx) + ab (ty-cy) then (if b = false ∧ round4 cx cy (ab (fx-cx) + ab (fy-cy)) then 0 else 11) else 1) := by
  obtain ⟨k, rfl⟩ : ∃ m, k = m + 1 := ⟨k - 1, by omega⟩
  simp only [swarfref33_Valid.j3]
  cases b with
  | true =>
    simp only [if_true, rright_f h1 h2 h3 h4 h5 h6, Option.bind_some, decide_eq_true_eq]
    simp
    split <;> rfl
  | false =>
    obtain ⟨a1, a2, a3, a4, a5, a6⟩ := h rfl
    unfold near at a1 a2 a3 a4 a5 a6
    rw [w64 (x := fx - cx) (by omega) (by omega), w64 (x := fy - cy) (by omega) (by omega), w64 (x := tx - cx) (by omega) (by omega), w64 (x := ty - cy) (by omega) (by omega)]
    rw [quadrant_f k (by omega) (by omega) (by omega), quadrant_f k (by omega) (by omega) (by omega)]
    simp only [Option.bind_some, Bool.false_eq_true, if_false]
    by_cases p : onq (fx-cx) (fy-cy)
    · have P := qd_on p
      rw [if_neg (by omega)]
      by_cases q : onq (tx-cx) (ty-cy)
      · have Q := qd_on q
        rw [if_neg (by omega), P.2.2.1, Q.2.2.1, j4_f _ k (by omega) (fun _ => by
          have := ab_nonneg (fx-cx)
          have := ab_nonneg (fy-cy)
          unfold near
          unfold ab; split <;> split <;> omega)]
        by_cases e : ab (fx-cx) + ab (fy-cy) = ab (tx-cx) + ab (ty-cy)
        · simp [e, p, q]
        · simp [e, p, q]
      · rw [qd_off q]
        simp only []
        rw [if_pos (by omega), j4_f true k (by omega) (by simp)]
        simp [q]
    · rw [qd_off p]
      simp only []
      rw [if_pos (by omega), j4_f true k (by omega) (by simp)]
      simp [p]

theorem j2_f {fx fy fz kind tx ty tz cx cy rate : Int} (st b : Bool) (k : Nat) (hk : 6 ≤ k) (h1 : I64 fx) (h2 : I64 fy) (h3 : I64 tx) (h4 : I64 ty) (h5 : I64 cx) (h6 : I64 cy)
    (hb : b = !decide (ends fx fy fz tx ty tz)) (hs : st = decide (okline kind rate)) (ha : st = false → isarc kind ∧ 0 < rate) :
    swarfref33_Valid.j2 k st b fx fy fz kind tx ty tz cx cy rate = some (validS fx fy fz kind tx ty tz cx cy rate) := by
  obtain ⟨k, rfl⟩ : ∃ m, k = m + 1 := ⟨k - 1, by omega⟩
  simp only [swarfref33_Valid.j2, far_f, Option.bind_some, Bool.not_eq_true', decide_eq_false_iff_not]
  unfold validS
  cases st with
  | true =>
    have : okline kind rate := by simpa using hs.symm
    rw [if_pos rfl, if_pos this, hb]
    by_cases e : ends fx fy fz tx ty tz <;> simp [e]
  | false =>
    have nl : ¬ okline kind rate := by simpa using hs.symm
    obtain ⟨ar, rp⟩ := ha rfl
    rw [if_neg (by decide), if_neg nl]
    have key : okarc fx fy kind tx ty cx cy rate ↔ onq (fx-cx) (fy-cy) ∧ onq (tx-cx) (ty-cy) ∧ ab (fx-cx) + ab (fy-cy) = ab (tx-cx) + ab (ty-cy) := by
      unfold okarc; simp only [ar, rp, true_and]
    by_cases e : ends fx fy fz tx ty tz
    · have hb' : b = false := by rw [hb]; simp [e]
      subst hb'
      rw [if_neg (by decide)]
      have e' := e
      unfold ends at e'
      have rr : ∀ r, 0 ≤ r → round4 cx cy r → near cx ∧ near cy := by intro r hr; unfold round4 near; omega
      have r0 : 0 ≤ ab (fx-cx) + ab (fy-cy) := by have := ab_nonneg (fx-cx); have := ab_nonneg (fy-cy); omega
      by_cases c1 : near cx
      · rw [if_neg (by simpa using c1)]
        by_cases c2 : near cy
        · simp only [c2, decide_true, Bool.not_true]
          rw [j3_f false k (by omega) h1 h2 h3 h4 h5 h6 (fun _ => ⟨e'.1, e'.2.1, e'.2.2.2.1, e'.2.2.2.2.1, c1, c2⟩)]
          by_cases q : okarc fx fy kind tx ty cx cy rate
          · rw [if_pos (key.mp q), if_pos q]; simp [e]
          · rw [if_neg (fun z => q (key.mpr z)), if_neg q]
        · simp only [c2, decide_false, Bool.not_false]
          rw [j3_f true k (by omega) h1 h2 h3 h4 h5 h6 (by simp)]
          by_cases q : okarc fx fy kind tx ty cx cy rate
          · rw [if_pos (key.mp q), if_pos q, if_neg (by simp), if_neg (fun z => c2 (rr _ r0 z.2).2)]
          · rw [if_neg (fun z => q (key.mpr z)), if_neg q]
      · rw [if_pos c1, j3_f true k (by omega) h1 h2 h3 h4 h5 h6 (by simp)]
        by_cases q : okarc fx fy kind tx ty cx cy rate
        · rw [if_pos (key.mp q), if_pos q, if_neg (by simp), if_neg (fun z => c1 (rr _ r0 z.2).1)]
        · rw [if_neg (fun z => q (key.mpr z)), if_neg q]
    · have hb' : b = true := by rw [hb]; simp [e]
      subst hb'
      rw [if_pos rfl, j3_f true k (by omega) h1 h2 h3 h4 h5 h6 (by simp)]
      by_cases q : okarc fx fy kind tx ty cx cy rate
      · rw [if_pos (key.mp q), if_pos q, if_neg (by simp), if_neg (fun z => e z.1)]
      · rw [if_neg (fun z => q (key.mpr z)), if_neg q]

theorem j1_f {fx fy fz kind tx ty tz cx cy rate : Int} (st b : Bool) (k : Nat) (hk : 7 ≤ k) (h1 : I64 fx) (h2 : I64 fy) (h3 : I64 tx) (h4 : I64 ty) (h5 : I64 cx) (h6 : I64 cy)
    (hs : st = decide (okline kind rate)) (hb : b = !decide (st = true ∨ isarc kind ∧ 0 < rate)) :
    swarfref33_Valid.j1 k st b fx fy fz kind tx ty tz cx cy rate = some (validS fx fy fz kind tx ty tz cx cy rate) := by
  obtain ⟨k, rfl⟩ : ∃ m, k = m + 1 := ⟨k - 1, by omega⟩
  simp only [swarfref33_Valid.j1, far_f, Option.bind_some, Bool.not_eq_true', decide_eq_false_iff_not]
  cases b with
  | true =>
    have hb' : ¬ (st = true ∨ isarc kind ∧ 0 < rate) := by
      have z := hb.symm
      rw [Bool.not_eq_true', decide_eq_false_iff_not] at z; exact z
    have nl : ¬ okline kind rate := fun z => hb' (.inl (by rw [hs]; simpa using z))
    have na : ¬ okarc fx fy kind tx ty cx cy rate := fun z => hb' (.inr ⟨z.1, z.2.1⟩)
    unfold validS
    rw [if_pos rfl, if_neg nl, if_neg na]
  | false =>
    have hb' : (st = true ∨ isarc kind ∧ 0 < rate) := by
      have z := hb.symm
      rw [Bool.not_eq_false', decide_eq_true_eq] at z; exact z
    have ha : st = false → isarc kind ∧ 0 < rate := fun z => hb'.resolve_left (by rw [z]; decide)
    rw [if_neg (by decide)]
    have go : ∀ x, x = (!decide (ends fx fy fz tx ty tz)) → swarfref33_Valid.j2 k st x fx fy fz kind tx ty tz cx cy rate = some (validS fx fy fz kind tx ty tz cx cy rate) :=
      fun x hx => j2_f st x k (by omega) h1 h2 h3 h4 h5 h6 hx hs ha
    by_cases a1 : near fx
    · rw [if_neg (by simpa using a1)]
      by_cases a2 : near fy
      · rw [if_neg (by simpa using a2)]
        by_cases a3 : near fz
        · rw [if_neg (by simpa using a3)]
          by_cases a4 : near tx
          · rw [if_neg (by simpa using a4)]
            by_cases a5 : near ty
            · rw [if_neg (by simpa using a5)]
              exact go _ (by simp [ends, a1, a2, a3, a4, a5])
            · rw [if_pos a5]; exact go _ (by simp [ends, a5])
          · rw [if_pos a4]; exact go _ (by simp [ends, a4])
        · rw [if_pos a3]; exact go _ (by simp [ends, a3])
      · rw [if_pos a2]; exact go _ (by simp [ends, a2])
    · rw [if_pos a1]; exact go _ (by simp [ends, a1])

theorem j0_f {fx fy fz kind tx ty tz cx cy rate : Int} (st : Bool) (k : Nat) (hk : 8 ≤ k) (h1 : I64 fx) (h2 : I64 fy) (h3 : I64 tx) (h4 : I64 ty) (h5 : I64 cx) (h6 : I64 cy)
    (hs : st = decide (okline kind rate)) :
    swarfref33_Valid.j0 k st fx fy fz kind tx ty tz cx cy rate = some (validS fx fy fz kind tx ty tz cx cy rate) := by
  obtain ⟨k, rfl⟩ : ∃ m, k = m + 1 := ⟨k - 1, by omega⟩
  simp only [swarfref33_Valid.j0, arc_f, Option.bind_some, decide_eq_true_eq]
  have go : ∀ b, b = (!decide (st = true ∨ isarc kind ∧ 0 < rate)) → swarfref33_Valid.j1 k st b fx fy fz kind tx ty tz cx cy rate = some (validS fx fy fz kind tx ty tz cx cy rate) :=
    fun b hb => j1_f st b k (by omega) h1 h2 h3 h4 h5 h6 hs hb
  cases st with
  | true => rw [if_pos rfl]; exact go _ (by simp)
  | false =>
    rw [if_neg (by decide)]
    by_cases a : isarc kind
    · rw [if_pos a]; apply go; rw [Bool.eq_iff_iff]; simp [a]
    · rw [if_neg a]; exact go _ (by simp [a])

theorem rvalid_f {fx fy fz kind tx ty tz cx cy rate : Int} (k : Nat) (hk : 8 ≤ k) (h1 : I64 fx) (h2 : I64 fy) (h3 : I64 tx) (h4 : I64 ty) (h5 : I64 cx) (h6 : I64 cy) :
    swarfref33_Valid.f k fx fy fz kind tx ty tz cx cy rate = some (validS fx fy fz kind tx ty tz cx cy rate) := by
  unfold swarfref33_Valid.f
  have go : ∀ b, b = decide (okline kind rate) → swarfref33_Valid.j0 k b fx fy fz kind tx ty tz cx cy rate = some (validS fx fy fz kind tx ty tz cx cy rate) :=
    fun b hb => j0_f b k (by omega) h1 h2 h3 h4 h5 h6 hb
  by_cases a : kind = 1
  · rw [if_pos a]
    by_cases b : rate = 0
    · rw [if_pos b]; exact go _ (by simp [okline, a, b])
    · rw [if_neg b, if_neg (by omega)]; exact go _ (by simp [okline, a, b])
  · rw [if_neg a]
    by_cases b : kind = 2
    · rw [if_pos b]; exact go _ (by simp [okline, b])
    · rw [if_neg b]; exact go _ (by simp [okline, a, b])

/-- where an arc begins and ends -/
def quartersS (fx fy kind tx ty cx cy : Int) : Int :=
  let n := if kind = 3 then (qd (fx-cx) (fy-cy)).1 - (qd (tx-cx) (ty-cy)).1 else (qd (tx-cx) (ty-cy)).1 - (qd (fx-cx) (fy-cy)).1
  if n ≤ 0 then n + 4 else n

theorem validS_ok_arc {fx fy fz kind tx ty tz cx cy rate : Int} (h : validS fx fy fz kind tx ty tz cx cy rate = 0) (ha : isarc kind) :
    okarc fx fy kind tx ty cx cy rate ∧ ends fx fy fz tx ty tz ∧ round4 cx cy (ab (fx-cx) + ab (fy-cy)) ∧ near cx ∧ near cy ∧ ab (fx-cx) + ab (fy-cy) ≤ 10000000 := by
  unfold validS at h
  have nl : ¬ okline kind rate := by unfold okline; unfold isarc at ha; omega
  rw [if_neg nl] at h
  by_cases q : okarc fx fy kind tx ty cx cy rate
  · rw [if_pos q] at h
    by_cases e : ends fx fy fz tx ty tz ∧ round4 cx cy (ab (fx-cx) + ab (fy-cy))
    · refine ⟨q, e.1, e.2, ?_⟩
      have := (qd_on q.2.2.1).2.2
      have h4 := e.2
      unfold round4 near at h4
      unfold near
      omega
    · rw [if_neg e] at h; omega
  · rw [if_neg q] at h; omega

def quartersR (fx fy fz kind tx ty tz cx cy rate : Int) : Int × Int :=
  if isarc kind then (if validS fx fy fz kind tx ty tz cx cy rate = 0 then (quartersS fx fy kind tx ty cx cy, 0) else (0, validS fx fy fz kind tx ty tz cx cy rate)) else (0, 1)

theorem quarters_f {fx fy fz kind tx ty tz cx cy rate : Int} (k : Nat) (hk : 30 ≤ k) (h1 : I64 fx) (h2 : I64 fy) (h2z : I64 fz) (h3 : I64 tx) (h4 : I64 ty) (h4z : I64 tz) (h5 : I64 cx) (h6 : I64 cy) :
    interpolate_Quarters.f k fx fy fz kind tx ty tz cx cy rate = some (quartersR fx fy fz kind tx ty tz cx cy rate) := by
  unfold interpolate_Quarters.f quartersR
  simp only [isArc_f, Option.bind_some, decide_eq_true_eq]
  by_cases a : isarc kind
  · rw [if_pos a, if_pos a, valid_f k hk h1 h2 h2z h3 h4 h4z h5 h6]
    simp only [Option.bind_some]
    by_cases v : validS fx fy fz kind tx ty tz cx cy rate = 0
    · rw [if_pos v, if_pos v, point_f k (by omega) h1 h2 h5 h6, point_f k (by omega) h3 h4 h5 h6]
      simp only [Option.bind_some]
      obtain ⟨q, -⟩ := validS_ok_arc v a
      have P := qd_on q.2.2.1
      have Q := qd_on q.2.2.2.1
      unfold ptI quartersS
      rw [if_pos q.2.2.1, if_pos q.2.2.2.1]
      generalize (qd (fx-cx) (fy-cy)).1 = p at *
      generalize (qd (tx-cx) (ty-cy)).1 = r at *
      rw [w64 (x := r - p) (by omega) (by omega), w64 (x := -(r-p)) (by omega) (by omega), w64 (x := -(r-p)+4) (by omega) (by omega), w64 (x := r-p+4) (by omega) (by omega)]
      by_cases c : kind = 3
      · rw [if_pos c]; simp only [c, if_true]
        by_cases d : -(r-p) ≤ 0
        · rw [if_pos d, if_pos (by omega)]; congr 2; omega
        · rw [if_neg d, if_neg (by omega)]; congr 2; omega
      · rw [if_neg c]; simp only [c, if_false]
        by_cases d : r-p ≤ 0
        · rw [if_pos d, if_pos (by omega)]
        · rw [if_neg d, if_neg (by omega)]
    · rw [if_neg v, if_neg v]
  · rw [if_neg a, if_neg a]

theorem rquarters_f {fx fy fz kind tx ty tz cx cy rate : Int} (k : Nat) (hk : 8 ≤ k) (h1 : I64 fx) (h2 : I64 fy) (h3 : I64 tx) (h4 : I64 ty) (h5 : I64 cx) (h6 : I64 cy) :
    swarfref33_Quarters.f k fx fy fz kind tx ty tz cx cy rate = some (quartersR fx fy fz kind tx ty tz cx cy rate) := by
  unfold swarfref33_Quarters.f quartersR
  simp only [arc_f, Option.bind_some, decide_eq_true_eq]
  by_cases a : isarc kind
  · rw [if_pos a, if_pos a, rvalid_f k hk h1 h2 h3 h4 h5 h6]
    simp only [Option.bind_some]
    by_cases v : validS fx fy fz kind tx ty tz cx cy rate = 0
    · rw [if_pos v, if_pos v]
      obtain ⟨q, e, -, c1, c2, -⟩ := validS_ok_arc v a
      have e' := e
      unfold ends near at e'
      unfold near at c1 c2
      rw [w64 (x := fx - cx) (by omega) (by omega), w64 (x := fy - cy) (by omega) (by omega), w64 (x := tx - cx) (by omega) (by omega), w64 (x := ty - cy) (by omega) (by omega)]
      rw [quadrant_f k (by omega) (by omega) (by omega), quadrant_f k (by omega) (by omega) (by omega)]
      simp only [Option.bind_some]
      have P := qd_on q.2.2.1
      have Q := qd_on q.2.2.2.1
      unfold quartersS
      generalize (qd (fx-cx) (fy-cy)).1 = p at *
      generalize (qd (tx-cx) (ty-cy)).1 = r at *
      rw [w64 (x := p - r) (by omega) (by omega), w64 (x := r - p) (by omega) (by omega), w64 (x := p-r+7) (by omega) (by omega), w64 (x := r-p+7) (by omega) (by omega),
        Int.tmod_eq_emod_of_nonneg (by omega), Int.tmod_eq_emod_of_nonneg (by omega), w64 (by omega) (by omega), w64 (by omega) (by omega)]
      by_cases c : kind = 3
      · rw [if_pos c]; simp only [c, if_true]
        by_cases d : p - r ≤ 0
        · rw [if_pos d]; congr 2; omega
        · rw [if_neg d]; congr 2; omega
      · rw [if_neg c]; simp only [c, if_false]
        by_cases d : r-p ≤ 0
        · rw [if_pos d]; congr 2; omega
        · rw [if_neg d]; congr 2; omega
    · rw [if_neg v, if_neg v]
  · rw [if_neg a, if_neg a]

end Go.Proofs.Ytblonchpophnkaa.Pure
