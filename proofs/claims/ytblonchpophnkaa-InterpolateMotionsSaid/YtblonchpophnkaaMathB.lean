/- Plain facts: the list of positions of an arc of the program. -/
import Derived.Test.YtblonchpophnkaaMathA
import Derived.Test.YtblonchpophnkaaFx11
import Derived.OpenShut
namespace Go.Proofs.Ytblonchpophnkaa.Pure
open Go.RowKit Go.Proofs.Ytblonchpophnkaa.F Go.Proofs.YtblonchpophnkaaW.PrintWords Go.Proofs.YtblonchpophnkaaW.PrintLast Go.Proofs.YtblonchpophnkaaW.PrintMore
set_option linter.unusedVariables false
set_option linter.unusedSimpArgs false
theorem mulb {a b A B : Int} (h1 : -A ≤ a) (h2 : a ≤ A) (h3 : 0 ≤ b) (h4 : b ≤ B) (hA : 0 ≤ A) : -(A*B) ≤ a*b ∧ a*b ≤ A*B := by
  have p1 : A*b ≤ A*B := Int.mul_le_mul_of_nonneg_left h4 hA
  have p2 : a*b ≤ A*b := Int.mul_le_mul_of_nonneg_right h2 h3
  have p3 : (-A)*b ≤ a*b := Int.mul_le_mul_of_nonneg_right h1 h3
  have p4 : (-A)*b = -(A*b) := Int.neg_mul A b
  omega

theorem floor_eq (a b : Int) (hb : 0 < b) : a / b = (if Int.tmod a b < 0 then Int.tdiv a b - 1 else Int.tdiv a b) := by
  rw [Int.tdiv_eq_ediv, Int.tmod_eq_emod]
  have h1 := Int.emod_nonneg a (show b ≠ 0 by omega)
  have h2 := Int.emod_lt_of_pos a hb
  have hs : b.sign = 1 := Int.sign_eq_one_of_pos hb
  have hn : (b.natAbs : Int) = b := by omega
  by_cases c : 0 ≤ a ∨ b ∣ a
  · rw [if_pos c, if_pos c, if_neg (by omega)]; omega
  · rw [if_neg c, if_neg c, hs, if_pos (by omega)]; omega

theorem floor_f {a b : Int} (hb : 0 < b) (h1 : -1000000000000000000 ≤ a) (h2 : a ≤ 1000000000000000000) : interpolate_floor.f a b = some (a / b) := by
  unfold interpolate_floor.f
  have e := floor_eq a b hb
  have q1 : -1000000000000000000 ≤ a / b := by
    rw [Int.le_ediv_iff_mul_le hb]
    have : 1 ≤ b := by omega
    have := Int.mul_le_mul_of_nonneg_left this (show (0:Int) ≤ 1000000000000000000 by omega)
    omega
  have q2 : a / b ≤ 1000000000000000000 := by
    by_cases c : 0 ≤ a
    · have := Int.ediv_le_self b c; omega
    · have := Int.ediv_neg_of_neg_of_pos (show a < 0 by omega) hb; omega
  rw [if_neg (by omega)]
  by_cases c : Int.tmod a b < 0
  · rw [if_pos c] at e
    rw [if_pos c, w64 (x := Int.tdiv a b) (by omega) (by omega), w64 (by omega) (by omega), e]
  · rw [if_neg c] at e
    rw [if_neg c, w64 (x := Int.tdiv a b) (by omega) (by omega), e]
def rot (x y t : Int) : Int × Int := if t = 0 then (x, y) else if t = 1 then (-y, x) else if t = 2 then (-x, -y) else (y, -x)

theorem turned_l0 {x y : Int} (t : Int) (k : Nat) (h0 : 0 ≤ t) (h3 : t ≤ 3) (hk : 5 ≤ k) (hx1 : -100000000 ≤ x) (hx2 : x ≤ 100000000) (hy1 : -100000000 ≤ y) (hy2 : y ≤ 100000000) :
    interpolate_turned.l0 k x y t 0 = some (rot x y t) := by
  obtain ⟨k, rfl⟩ : ∃ m, k = m + 5 := ⟨k - 5, by omega⟩
  have e1 : wrap64 (-y) = -y := w64 (by omega) (by omega)
  have e2 : wrap64 (-x) = -x := w64 (by omega) (by omega)
  have e3 : wrap64 (- -y) = y := by rw [Int.neg_neg]; exact w64 (by omega) (by omega)
  have e4 : wrap64 y = y := w64 (by omega) (by omega)
  have e5 : wrap64 x = x := w64 (by omega) (by omega)
  have a1 : wrap64 1 = 1 := w64 (by omega) (by omega)
  have a2 : wrap64 2 = 2 := w64 (by omega) (by omega)
  have a3 : wrap64 3 = 3 := w64 (by omega) (by omega)
  have a4 : wrap64 4 = 4 := w64 (by omega) (by omega)
  have c : t = 0 ∨ t = 1 ∨ t = 2 ∨ t = 3 := by omega
  rcases c with rfl | rfl | rfl | rfl <;> simp [interpolate_turned.l0, e1, e2, e3, e4, e5, a1, a2, a3, a4, rot]

theorem turned_f {x y : Int} (t : Int) (k : Nat) (h0 : 0 ≤ t) (h7 : t ≤ 7) (hk : 5 ≤ k) (hx1 : -100000000 ≤ x) (hx2 : x ≤ 100000000) (hy1 : -100000000 ≤ y) (hy2 : y ≤ 100000000) :
    interpolate_turned.f k x y t = some (rot x y (t % 4)) := by
  unfold interpolate_turned.f
  have e : Go.bits .and .i64 t 3 = t % 4 := by
    have c : t = 0 ∨ t = 1 ∨ t = 2 ∨ t = 3 ∨ t = 4 ∨ t = 5 ∨ t = 6 ∨ t = 7 := by omega
    rcases c with rfl | rfl | rfl | rfl | rfl | rfl | rfl | rfl <;> decide
  rw [e]
  exact turned_l0 _ k (by omega) (by omega) hk hx1 hx2 hy1 hy2
/-- the end of chord k of n in the first quarter -/
def chX (r n k : Int) : Int := r*(n*n-k*k)/(n*n+k*k)
def chY (r n k : Int) : Int := 2*r*k*n/(n*n+k*k)
/-- position number i (from 0) of an arc: s: where it starts; n chords a quarter -/
def arcAt (s r n kind fz tz cx cy total : Int) (i : Nat) : S23 :=
  let k := (i : Int) % n + 1
  let j := (i : Int) / n
  let p := if kind = 3 then rot (chX r n k) (-(chY r n k)) ((s + 3*j) % 4) else rot (chX r n k) (chY r n k) ((s + j) % 4)
  ⟨cx + p.1, cy + p.2, fz + ((tz-fz)*((i:Int)+1))/total⟩
def AL (s r n kind fz tz cx cy total : Int) (m : Nat) : List S23 := (List.range m).map (arcAt s r n kind fz tz cx cy total)
theorem AL_succ (s r n kind fz tz cx cy total : Int) (m : Nat) : AL s r n kind fz tz cx cy total (m+1) = AL s r n kind fz tz cx cy total m ++ [arcAt s r n kind fz tz cx cy total m] := by
  unfold AL; rw [List.range_succ, List.map_append]; rfl
theorem AL_length (s r n kind fz tz cx cy total : Int) (m : Nat) : (AL s r n kind fz tz cx cy total m).length = m := by simp [AL]

theorem ch_bounds {r n k : Int} (hr : 0 ≤ r) (hn : 1 ≤ n) (hk : 0 ≤ k) (hkn : k ≤ n) :
    0 ≤ chX r n k ∧ chX r n k ≤ r ∧ 0 ≤ chY r n k ∧ chY r n k ≤ r := by
  have nn : 1 ≤ n*n := by have := Int.mul_le_mul hn hn (by omega) (by omega); omega
  have kk : 0 ≤ k*k := Int.mul_nonneg hk hk
  have kn : k*k ≤ n*n := Int.mul_le_mul hkn hkn hk (by omega)
  have d : 0 < n*n + k*k := by omega
  have s : 0 ≤ (n-k)*(n-k) := Int.mul_nonneg (by omega) (by omega)
  have s2 : (n-k)*(n-k) = n*n + k*k - 2*(k*n) := by grind
  have kn0 : 0 ≤ k*n := Int.mul_nonneg hk (by omega)
  unfold chX chY
  refine ⟨Int.ediv_nonneg (Int.mul_nonneg hr (by omega)) (by omega), ?_, Int.ediv_nonneg (by have := Int.mul_nonneg hr kn0; grind) (by omega), ?_⟩
  · have : r*(n*n-k*k) ≤ r*(n*n+k*k) := Int.mul_le_mul_of_nonneg_left (by omega) hr
    have h := Int.ediv_le_ediv d this
    rw [Int.mul_ediv_cancel _ (by omega)] at h; exact h
  · have : 2*r*k*n ≤ r*(n*n+k*k) := by
      have e : 2*r*k*n = r*(2*(k*n)) := by grind
      rw [e]; exact Int.mul_le_mul_of_nonneg_left (by omega) hr
    have h := Int.ediv_le_ediv d this
    rw [Int.mul_ediv_cancel _ (by omega)] at h; exact h

def IsCh (r n : Int) : Prop := 1 ≤ n ∧ r ≤ 10*(n*n) ∧ (n = 1 ∨ 10*((n-1)*(n-1)) < r)
theorem IsCh.le {r n m : Int} (hn : IsCh r n) (hm : IsCh r m) : m ≤ n := by
  obtain ⟨a, b, c⟩ := hn
  obtain ⟨a', b', c'⟩ := hm
  by_cases h : m ≤ n
  · exact h
  · have := sq_le (a := n) (b := m-1) (by omega) (by omega)
    omega
theorem IsCh.unique {r n m : Int} (hn : IsCh r n) (hm : IsCh r m) : n = m := by
  have := hn.le hm; have := hm.le hn; omega
def chN (r : Int) : Int := (interpolate_Chords.f 100 r).getD 0
theorem chN_is {r : Int} (h0 : 0 < r) (h1 : r ≤ 1099511627776) : IsCh r (chN r) := by
  obtain ⟨n, e, a, b, c, d⟩ := chords_f r 100 (by omega) h0 h1
  unfold chN; rw [e]; exact ⟨a, c, d⟩
theorem chords_N {r : Int} (k : Nat) (hk : 31 ≤ k) (h0 : 0 < r) (h1 : r ≤ 1099511627776) : interpolate_Chords.f k r = some (chN r) := by
  obtain ⟨n, e, a, b, c, d⟩ := chords_f r k hk h0 h1
  rw [e]; congr 1; exact IsCh.unique ⟨a, c, d⟩ (chN_is h0 h1)
theorem chN_le {r : Int} (h0 : 0 < r) (h1 : r ≤ 10000000) : 1 ≤ chN r ∧ chN r ≤ 1000 := by
  obtain ⟨a, b, c⟩ := chN_is (r := r) h0 (by omega)
  refine ⟨a, ?_⟩
  by_cases h : chN r ≤ 1000
  · exact h
  · have := sq_le (a := 1000) (b := chN r - 1) (by omega) (by omega)
    omega
/-- the arithmetic of one chord's end, as both programs reckon it -/
theorem chX_f {r n k : Int} (hr : 0 ≤ r) (hr2 : r ≤ 10000000) (hn : 1 ≤ n) (hn2 : n ≤ 1000) (hk : 1 ≤ k) (hkn : k ≤ n) :
    wrap64 (Int.tdiv (wrap64 (r * (wrap64 ((wrap64 (n * n)) - (wrap64 (k * k)))))) (wrap64 ((wrap64 (n * n)) + (wrap64 (k * k))))) = chX r n k ∧
    wrap64 (Int.tdiv (wrap64 ((wrap64 ((wrap64 (2 * r)) * k)) * n)) (wrap64 ((wrap64 (n * n)) + (wrap64 (k * k))))) = chY r n k ∧
    wrap64 ((wrap64 (n * n)) + (wrap64 (k * k))) ≠ 0 := by
  have nn1 : 1 ≤ n*n := by have := Int.mul_le_mul hn hn (by omega) (by omega); omega
  have nn2 : n*n ≤ 1000*1000 := sq_le (by omega) hn2
  have kk0 : 0 ≤ k*k := Int.mul_nonneg (by omega) (by omega)
  have kn : k*k ≤ n*n := sq_le (by omega) hkn
  have b := ch_bounds (k := k) hr hn (by omega) hkn
  have m1 := mulb (a := r) (b := n*n-k*k) (A := 10000000) (B := 1000000) (by omega) (by omega) (by omega) (by omega) (by omega)
  have m2 := mulb (a := 2*r) (b := k) (A := 20000000) (B := 1000) (by omega) (by omega) (by omega) (by omega) (by omega)
  have m3 := mulb (a := 2*r*k) (b := n) (A := 20000000000) (B := 1000) (by omega) (by omega) (by omega) (by omega) (by omega)
  have p1 : 0 ≤ r*(n*n-k*k) := Int.mul_nonneg hr (by omega)
  have p2 : 0 ≤ 2*r*k*n := Int.mul_nonneg (Int.mul_nonneg (by omega) (by omega)) (by omega)
  rw [w64 (x := n*n) (by omega) (by omega), w64 (x := k*k) (by omega) (by omega), w64 (x := n*n-k*k) (by omega) (by omega), w64 (x := n*n+k*k) (by omega) (by omega),
    w64 (x := r*(n*n-k*k)) (by omega) (by omega), w64 (x := 2*r) (by omega) (by omega), w64 (x := 2*r*k) (by omega) (by omega), w64 (x := 2*r*k*n) (by omega) (by omega),
    Int.tdiv_eq_ediv_of_nonneg p1, Int.tdiv_eq_ediv_of_nonneg p2]
  unfold chX chY at b
  refine ⟨w64 (by omega) (by omega), w64 (by omega) (by omega), by omega⟩

theorem rot_bounds {x y t B : Int} (h1 : -B ≤ x) (h2 : x ≤ B) (h3 : -B ≤ y) (h4 : y ≤ B) : -B ≤ (rot x y t).1 ∧ (rot x y t).1 ≤ B ∧ -B ≤ (rot x y t).2 ∧ (rot x y t).2 ≤ B := by
  unfold rot
  split
  · exact ⟨h1, h2, h3, h4⟩
  · split
    · simp only; omega
    · split <;> (simp only; omega)

/-- what a valid arc's numbers obey -/
structure ArcOk (s r n q fz tz cx cy : Int) : Prop where
  s0 : 0 ≤ s
  s3 : s ≤ 3
  r0 : 0 < r
  r1 : r ≤ 10000000
  n1 : 1 ≤ n
  n2 : n ≤ 1000
  q1 : 1 ≤ q
  q4 : q ≤ 4
  fz0 : near fz
  tz0 : near tz
  cx0 : near cx
  cy0 : near cy

theorem arc_elem {s r n q fz tz cx cy kind : Int} (h : ArcOk s r n q fz tz cx cy) (j kk : Int) (m : Nat) (hj : 0 ≤ j) (hjq : j < q) (hk1 : 1 ≤ kk) (hkn : kk ≤ n) (hm : (m : Int) = j*n + (kk-1)) :
    (m : Int) + 1 ≤ 4000 ∧ (m : Int) < n*q ∧ (m : Int) % n = kk - 1 ∧ (m : Int) / n = j ∧
    arcAt s r n kind fz tz cx cy (n*q) m =
      (⟨cx + (if kind = 3 then rot (chX r n kk) (-(chY r n kk)) ((s + 3*j) % 4) else rot (chX r n kk) (chY r n kk) ((s + j) % 4)).1,
        cy + (if kind = 3 then rot (chX r n kk) (-(chY r n kk)) ((s + 3*j) % 4) else rot (chX r n kk) (chY r n kk) ((s + j) % 4)).2,
        fz + ((tz-fz)*((m:Int)+1))/(n*q)⟩ : S23) := by
  obtain ⟨s0, s3, r0, r1, n1, n2, q1, q4, -, -, -, -⟩ := h
  have hjn := mulb (a := j) (b := n) (A := 3) (B := 1000) (by omega) (by omega) (by omega) (by omega) (by omega)
  have lt : (m : Int) < n*q := by
    have : (j+1)*n ≤ q*n := Int.mul_le_mul_of_nonneg_right (by omega) (by omega)
    have e1 : (j+1)*n = j*n + n := by grind
    have e2 : q*n = n*q := Int.mul_comm q n
    omega
  have e1 : (m : Int) % n = kk - 1 := by
    rw [hm, Int.add_comm, Int.add_mul_emod_self_right]; exact Int.emod_eq_of_lt (by omega) (by omega)
  have e2 : (m : Int) / n = j := by
    rw [hm, Int.add_comm, Int.add_mul_ediv_right _ _ (by omega), Int.ediv_eq_zero_of_lt (by omega) (by omega)]; omega
  refine ⟨by omega, lt, e1, e2, ?_⟩
  unfold arcAt
  rw [e1, e2]
  have : kk - 1 + 1 = kk := by omega
  rw [this]

theorem z_bounds {n q fz tz : Int} (m : Int) (hn : 1 ≤ n) (hq : 1 ≤ q) (h1 : near fz) (h2 : near tz) (hm : 0 ≤ m) (hm2 : m + 1 ≤ 4000) (hlt : m < n*q) :
    wrap64 ((wrap64 (tz - fz)) * (wrap64 (m + 1))) = (tz-fz)*(m+1) ∧ -1000000000000 ≤ (tz-fz)*(m+1) ∧ (tz-fz)*(m+1) ≤ 1000000000000 ∧ wrap64 (fz + (tz-fz)*(m+1)/(n*q)) = fz + (tz-fz)*(m+1)/(n*q) := by
  unfold near at h1 h2
  have b := mulb (a := tz-fz) (b := m+1) (A := 20000000) (B := 4000) (by omega) (by omega) (by omega) (by omega) (by omega)
  have pos : 0 < n*q := Int.mul_pos (by omega) (by omega)
  have b2 : -20000000 ≤ (tz-fz)*(m+1)/(n*q) ∧ (tz-fz)*(m+1)/(n*q) ≤ 20000000 := by
    have c := mulb (a := tz-fz) (b := m+1) (A := 20000000) (B := n*q) (by omega) (by omega) (by omega) (by omega) (by omega)
    constructor
    · rw [Int.le_ediv_iff_mul_le pos]; have : -20000000*(n*q) = -(20000000*(n*q)) := Int.neg_mul _ _; omega
    · have h := Int.ediv_le_ediv pos c.2
      rw [Int.mul_ediv_cancel _ (by omega)] at h; exact h
  rw [w64 (x := tz - fz) (by omega) (by omega), w64 (x := m+1) (by omega) (by omega), w64 (x := (tz-fz)*(m+1)) (by omega) (by omega)]
  exact ⟨rfl, by omega, by omega, w64 (by omega) (by omega)⟩

theorem arc_l1 {s r n q fx fy fz kind tx ty tz cx cy rate : Int} (h : ArcOk s r n q fz tz cx cy) (j : Int) (hj : 0 ≤ j) (hjq : j < q) (d : Nat) :
    ∀ (k : Nat) (kk : Int) (m m' : Nat), 1 ≤ kk → n + 1 - kk = d → 10 ≤ k → (m : Int) = j*n + (kk-1) → (m' : Int) = (j+1)*n →
    interpolate_Arc.l1 (k + d + 1) s r n (n*q) (AL s r n kind fz tz cx cy (n*q) m) j kk q j fx fy fz kind tx ty tz cx cy rate
      = interpolate_Arc.l0 k s r n (n*q) (AL s r n kind fz tz cx cy (n*q) m') q (j+1) fx fy fz kind tx ty tz cx cy rate := by
  have h' := h
  obtain ⟨s0, s3, r0, r1, n1, n2, q1, q4, fz0, tz0, cx0, cy0⟩ := h'
  unfold near at cx0 cy0
  induction d with
  | zero =>
    intro k kk m m' h1 hd hk hm hm'
    obtain rfl : kk = n + 1 := by omega
    have : m = m' := by have : (j+1)*n = j*n + n := by grind
                        omega
    subst this
    simp only [Nat.add_zero, interpolate_Arc.l1]
    rw [if_neg (by omega), w64 (x := j+1) (by omega) (by omega)]
  | succ d ih =>
    intro k kk m m' h1 hd hk hm hm'
    obtain ⟨b1, lt, e1, e2, el⟩ := arc_elem (kind := kind) h j kk m hj hjq h1 (by omega) hm
    obtain ⟨cX, cY, c0⟩ := chX_f (k := kk) (by omega) r1 n1 n2 h1 (by omega)
    obtain ⟨x0, x1, y0, y1⟩ := ch_bounds (r := r) (n := n) (k := kk) (by omega) n1 (by omega) (by omega)
    obtain ⟨z1, z2, z3, z4⟩ := z_bounds (n := n) (q := q) (m : Int) n1 q1 fz0 tz0 (by omega) b1 lt
    have pos : 0 < n*q := Int.mul_pos (by omega) (by omega)
    have e5 : k + (d + 1) + 1 = (k + d + 1) + 1 := by omega
    rw [e5]
    rw [interpolate_Arc.l1]
    rw [if_pos (by omega), if_neg c0, cX, cY, AL_length, z1]
    simp only [floor_f pos (by omega : -1000000000000000000 ≤ (tz-fz)*((m:Int)+1)) (by omega : (tz-fz)*((m:Int)+1) ≤ 1000000000000000000)]
    have nx := ih k (kk+1) (m+1) m' (by omega) (by omega) hk (by omega) hm'
    rw [AL_succ s r n kind fz tz cx cy (n*q) m, el] at nx
    rw [w64 (x := kk+1) (by omega) (by omega)]
    by_cases c : kind = 3
    · rw [if_pos c, w64 (x := -(chY r n kk)) (by omega) (by omega), w64 (x := s - j) (by omega) (by omega), w64 (x := s-j+4) (by omega) (by omega)]
      rw [turned_f (s-j+4) _ (by omega) (by omega) (by omega) (by omega) (by omega) (by omega) (by omega)]
      have t : (s - j + 4) % 4 = (s + 3*j) % 4 := by omega
      have rb := rot_bounds (t := (s+3*j)%4) (B := 10000000) (x := chX r n kk) (y := -(chY r n kk)) (by omega) (by omega) (by omega) (by omega)
      simp only [if_pos c] at nx
      rw [t]
      simp only [Option.bind_some]
      rw [if_pos (by omega), z4, w64 (x := cx + _) (by omega) (by omega), w64 (x := cy + _) (by omega) (by omega), ← nx]
    · rw [if_neg c, w64 (x := s + j) (by omega) (by omega)]
      rw [turned_f (s+j) _ (by omega) (by omega) (by omega) (by omega) (by omega) (by omega) (by omega)]
      have rb := rot_bounds (t := (s+j)%4) (B := 10000000) (x := chX r n kk) (y := chY r n kk) (by omega) (by omega) (by omega) (by omega)
      simp only [if_neg c] at nx
      simp only [Option.bind_some]
      rw [if_pos (by omega), z4, w64 (x := cx + _) (by omega) (by omega), w64 (x := cy + _) (by omega) (by omega), ← nx]

theorem arc_l0 {s r n q fx fy fz kind tx ty tz cx cy rate : Int} (h : ArcOk s r n q fz tz cx cy) (d : Nat) :
    ∀ (k : Nat) (j : Int) (m : Nat), 0 ≤ j → q - j = d → 1100 * d + 1100 ≤ k → (m : Int) = j*n →
    interpolate_Arc.l0 k s r n (n*q) (AL s r n kind fz tz cx cy (n*q) m) q j fx fy fz kind tx ty tz cx cy rate = some (AL s r n kind fz tz cx cy (n*q) (n*q).toNat, 0) := by
  induction d with
  | zero =>
    intro k j m hj hd hk hm
    obtain ⟨k, rfl⟩ : ∃ m, k = m + 1 := ⟨k - 1, by omega⟩
    obtain rfl : j = q := by omega
    have : m = (n*j).toNat := by rw [Int.mul_comm]; omega
    subst this
    simp only [interpolate_Arc.l0]
    rw [if_neg (by omega)]
  | succ d ih =>
    intro k j m hj hd hk hm
    have n1 := h.n1
    have n2 := h.n2
    obtain ⟨k, rfl⟩ : ∃ m, k = m + n.toNat + 2 := ⟨k - n.toNat - 2, by omega⟩
    rw [interpolate_Arc.l0, if_pos (by omega)]
    have jn : 0 ≤ (j+1)*n := Int.mul_nonneg (by omega) (by omega)
    rw [arc_l1 h j hj (by omega) n.toNat k 1 m ((j+1)*n).toNat (by omega) (by omega) (by omega) (by omega) (by omega)]
    exact ih k (j+1) _ (by omega) (by omega) (by omega) (by omega)

/-- the whole arc -/
def arcL (fx fy fz kind tx ty tz cx cy : Int) : List S23 :=
  AL (qd (fx-cx) (fy-cy)).1 (ab (fx-cx) + ab (fy-cy)) (chN (ab (fx-cx) + ab (fy-cy))) kind fz tz cx cy (chN (ab (fx-cx) + ab (fy-cy)) * quartersS fx fy kind tx ty cx cy) (chN (ab (fx-cx) + ab (fy-cy)) * quartersS fx fy kind tx ty cx cy).toNat

theorem quartersS_bounds {fx fy kind tx ty cx cy : Int} (h1 : onq (fx-cx) (fy-cy)) (h2 : onq (tx-cx) (ty-cy)) : 1 ≤ quartersS fx fy kind tx ty cx cy ∧ quartersS fx fy kind tx ty cx cy ≤ 4 := by
  have P := qd_on h1
  have Q := qd_on h2
  unfold quartersS
  by_cases c : kind = 3
  · simp only [if_pos c]; split <;> omega
  · simp only [if_neg c]; split <;> omega

theorem arcOk_of {fx fy fz kind tx ty tz cx cy rate : Int} (v : validS fx fy fz kind tx ty tz cx cy rate = 0) (a : isarc kind) :
    ArcOk (qd (fx-cx) (fy-cy)).1 (ab (fx-cx) + ab (fy-cy)) (chN (ab (fx-cx) + ab (fy-cy))) (quartersS fx fy kind tx ty cx cy) fz tz cx cy := by
  obtain ⟨o, e, r4, c1, c2, rr⟩ := validS_ok_arc v a
  have P := qd_on o.2.2.1
  have Q := quartersS_bounds (kind := kind) o.2.2.1 o.2.2.2.1
  have N := chN_le (r := ab (fx-cx) + ab (fy-cy)) (by omega) rr
  exact ⟨P.1, P.2.1, by omega, rr, N.1, N.2, Q.1, Q.2, e.2.2.1, e.2.2.2.2.2, c1, c2⟩

def arcR (fx fy fz kind tx ty tz cx cy rate : Int) : List S23 × Int :=
  if isarc kind then (if validS fx fy fz kind tx ty tz cx cy rate = 0 then (arcL fx fy fz kind tx ty tz cx cy, 0) else ([], validS fx fy fz kind tx ty tz cx cy rate)) else ([], 1)

theorem Arc_f {fx fy fz kind tx ty tz cx cy rate : Int} (k : Nat) (hk : 6000 ≤ k) (h1 : I64 fx) (h2 : I64 fy) (h2z : I64 fz) (h3 : I64 tx) (h4 : I64 ty) (h4z : I64 tz) (h5 : I64 cx) (h6 : I64 cy) :
    interpolate_Arc.f k fx fy fz kind tx ty tz cx cy rate = some (arcR fx fy fz kind tx ty tz cx cy rate) := by
  unfold interpolate_Arc.f arcR
  rw [quarters_f k (by omega) h1 h2 h2z h3 h4 h4z h5 h6]
  unfold quartersR
  simp only [Option.bind_some]
  by_cases a : isarc kind
  · simp only [if_pos a]
    by_cases v : validS fx fy fz kind tx ty tz cx cy rate = 0
    · simp only [if_pos v, if_true]
      have ok := arcOk_of v a
      obtain ⟨o, -⟩ := validS_ok_arc v a
      rw [point_f k (by omega) h1 h2 h5 h6]
      unfold ptI
      rw [if_pos o.2.2.1]
      simp only [Option.bind_some]
      rw [(qd_on o.2.2.1).2.2.1]
      have h' := ok
      obtain ⟨s0, s3, r0, r1, n1, n2, q1, q4, -, -, -, -⟩ := h'
      unfold arcL
      generalize hr : ab (fx-cx) + ab (fy-cy) = r at *
      generalize hs : (qd (fx-cx) (fy-cy)).1 = s at *
      generalize hq : quartersS fx fy kind tx ty cx cy = q at *
      rw [w64 (x := r) (by omega) (by omega), chords_N k (by omega) r0 (by omega)]
      simp only [Option.bind_some]
      have nq := mulb (a := chN r) (b := q) (A := 1000) (B := 4) (by omega) (by omega) (by omega) (by omega) (by omega)
      rw [w64 (x := chN r * q) (by omega) (by omega), if_neg (by omega)]
      exact arc_l0 ok q.toNat k 0 0 (by omega) (by omega) (by omega) (by simp)
    · simp only [if_neg v]
  · simp only [if_neg a]
    rw [if_neg (by omega)]


end Go.Proofs.Ytblonchpophnkaa.Pure
