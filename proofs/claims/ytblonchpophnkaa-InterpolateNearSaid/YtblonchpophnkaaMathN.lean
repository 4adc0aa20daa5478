/- The law InterpolateNear, told of numbers alone: every chord stays far from the center. -/
import Derived.Test.YtblonchpophnkaaMathJ
import Derived.Test.YtblonchpophnkaaMathF
import Derived.Test.YtblonchpophnkaaFx32
import Derived.Test.YtblonchpophnkaaFx33
import Derived.OpenShut
namespace Go.Proofs.Ytblonchpophnkaa.Pure
open Go.RowKit Go.Proofs.Ytblonchpophnkaa.F Go.Proofs.YtblonchpophnkaaW.PrintWords Go.Proofs.YtblonchpophnkaaW.PrintLast Go.Proofs.YtblonchpophnkaaW.PrintMore
set_option linter.unusedVariables false
set_option linter.unusedSimpArgs false
theorem near_key (n k R : Int) (hn : 1 ≤ n) (hk0 : 0 ≤ k) (hk : k+1 ≤ n) (hR : R ≤ 10*(n*n)) (h7 : 7 ≤ R) :
    let c := n*n + k*(k+1)
    let D := R*c - ((n*n - k*(k+1)) + n*(2*k+1))
    0 ≤ D ∧ ((R-7)*(R-7))*(c*c+n*n) ≤ D*D := by
  intro c D
  have hkk : 0 ≤ k*(k+1) := Int.mul_nonneg hk0 (by omega)
  have hnn : 1 ≤ n*n := by
    have := Int.mul_le_mul hn hn (by omega) (by omega); omega
  have hc : 1 ≤ c := by simp only [c]; omega
  have hcn : n*n ≤ c := by simp only [c]; omega
  -- 2c·D ≥ (R-7)(2c²+n²)
  have s2 : (n*n - k*(k+1)) + n*(2*k+1) ≤ 2*c := by
    have h1 : 0 ≤ (n-k)*(n-k-1) := Int.mul_nonneg (by omega) (by omega)
    have h2 : 2*c - ((n*n - k*(k+1)) + n*(2*k+1)) = (n-k)*(n-k-1) + 2*(k*(k+1)) := by simp only [c]; grind
    omega
  have h5 : (R-7)*(n*n) ≤ 10*(c*c) := by
    have a1 : (R-7)*(n*n) ≤ (10*(n*n))*(n*n) := Int.mul_le_mul_of_nonneg_right (by omega) (by omega)
    have a2 : (n*n)*(n*n) ≤ c*c := sq_le (by omega) hcn
    grind
  have key : (R-7)*(2*(c*c)+n*n) ≤ 2*c*D := by
    have e : 2*c*D = (R-7)*(2*(c*c)) + 14*(c*c) - 2*c*((n*n - k*(k+1)) + n*(2*k+1)) := by simp only [D]; grind
    have h6 : 2*c*((n*n - k*(k+1)) + n*(2*k+1)) ≤ 2*c*(2*c) := Int.mul_le_mul_of_nonneg_left s2 (by omega)
    have e2 : 2*c*(2*c) = 4*(c*c) := by grind
    have e3 : (R-7)*(2*(c*c)+n*n) = (R-7)*(2*(c*c)) + (R-7)*(n*n) := by grind
    omega
  have pos : 0 ≤ (R-7)*(2*(c*c)+n*n) := Int.mul_nonneg (by omega) (by have := Int.mul_nonneg (a := c) (b := c) (by omega) (by omega); omega)
  have hD : 0 ≤ D := by
    have h1 : 0 ≤ (2*c)*D := by omega
    exact Int.le_of_mul_le_mul_left (a := 2*c) (by omega) (by omega)
  refine ⟨hD, ?_⟩
  have q := sq_le pos key
  have e4 : (2*(c*c)+n*n)*(2*(c*c)+n*n) = 4*(c*c)*(c*c+n*n) + (n*n)*(n*n) := by grind
  have nn2 : 0 ≤ (n*n)*(n*n) := Int.mul_nonneg (by omega) (by omega)
  have q2 : (4*(c*c))*(((R-7)*(R-7))*(c*c+n*n)) ≤ (4*(c*c))*(D*D) := by
    have e5 : (R-7)*(2*(c*c)+n*n)*((R-7)*(2*(c*c)+n*n)) = (4*(c*c))*(((R-7)*(R-7))*(c*c+n*n)) + ((R-7)*(R-7))*((n*n)*(n*n)) := by grind
    have e6 : 2*c*D*(2*c*D) = (4*(c*c))*(D*D) := by grind
    have p2 : 0 ≤ ((R-7)*(R-7))*((n*n)*(n*n)) := Int.mul_nonneg (Int.mul_nonneg (by omega) (by omega)) nn2
    omega
  have cc : 0 < 4*(c*c) := by have := Int.mul_le_mul hc hc (by omega) (by omega); omega
  exact Int.le_of_mul_le_mul_left q2 cc

theorem sq_nonneg (a : Int) : 0 ≤ a*a := by
  rcases Int.le_total 0 a with h | h
  · exact Int.mul_nonneg h h
  · have := Int.mul_nonneg (a := -a) (b := -a) (by omega) (by omega); grind

theorem cs (a b x y D L : Int) (hD : 0 ≤ D) (h : D ≤ a*x + b*y) (hL : (L*L)*(x*x+y*y) ≤ D*D) (hW : 0 < x*x+y*y) : L*L ≤ a*a+b*b := by
  have h1 := sq_le hD h
  have h2 := sq_nonneg (a*y - b*x)
  have e : (a*x+b*y)*(a*x+b*y) + (a*y-b*x)*(a*y-b*x) = (a*a+b*b)*(x*x+y*y) := by grind
  exact Int.le_of_mul_le_mul_right (a := x*x+y*y) (by omega) hW

theorem far_mid (a b c d x y D L : Int) (hD : 0 ≤ D) (hp : D ≤ a*x+b*y) (hq : D ≤ c*x+d*y)
    (hL : (L*L)*(x*x+y*y) ≤ D*D) (hW : 0 < x*x+y*y)
    (ht0 : 0 ≤ -(a*(c-a)+b*(d-b))) (htn : -(a*(c-a)+b*(d-b)) ≤ (c-a)*(c-a)+(d-b)*(d-b)) (hn : 0 < (c-a)*(c-a)+(d-b)*(d-b)) :
    L*L*((c-a)*(c-a)+(d-b)*(d-b)) ≤ (a*(d-b)-b*(c-a))*(a*(d-b)-b*(c-a)) := by
  generalize hu : c - a = u at *
  generalize hv : d - b = v at *
  obtain rfl : c = a + u := by omega
  obtain rfl : d = b + v := by omega
  generalize hnn : u*u+v*v = n at *
  generalize htt : -(a*u+b*v) = t at *
  -- X = n P + t u
  have h1 : n*D ≤ (n*a+t*u)*x + (n*b+t*v)*y := by
    have e : (n*a+t*u)*x + (n*b+t*v)*y = (n-t)*(a*x+b*y) + t*((a+u)*x+(b+v)*y) := by grind
    have m1 : (n-t)*D ≤ (n-t)*(a*x+b*y) := Int.mul_le_mul_of_nonneg_left hp (by omega)
    have m2 : t*D ≤ t*((a+u)*x+(b+v)*y) := Int.mul_le_mul_of_nonneg_left hq ht0
    have e2 : n*D = (n-t)*D + t*D := by grind
    omega
  have hL' : ((n*L)*(n*L))*(x*x+y*y) ≤ (n*D)*(n*D) := by
    have e1 : ((n*L)*(n*L))*(x*x+y*y) = (n*n)*((L*L)*(x*x+y*y)) := by grind
    have e2 : (n*D)*(n*D) = (n*n)*(D*D) := by grind
    rw [e1, e2]
    exact Int.mul_le_mul_of_nonneg_left hL (sq_nonneg n)
  have h3 := cs _ _ x y (n*D) (n*L) (Int.mul_nonneg (by omega) hD) h1 hL' hW
  have e : (n*a+t*u)*(n*a+t*u)+(n*b+t*v)*(n*b+t*v) = n*((a*v-b*u)*(a*v-b*u)) := by
    subst hnn; subst htt; grind
  have e2 : n*L*(n*L) = n*(L*L*n) := by grind
  rw [e, e2] at h3
  exact Int.le_of_mul_le_mul_left h3 hn

theorem mulb2 {a b A B : Int} (h1 : -A ≤ a) (h2 : a ≤ A) (h3 : -B ≤ b) (h4 : b ≤ B) (hA : 0 ≤ A) (hB : 0 ≤ B) : -(A*B) ≤ a*b ∧ a*b ≤ A*B := by
  rcases Int.le_total 0 b with h | h
  · exact mulb h1 h2 h h4 hA
  · have := mulb (a := a) (b := -b) (A := A) (B := B) h1 h2 (by omega) (by omega) hA
    rw [Int.mul_neg] at this
    omega

/-- what 'far' asks -/
def FarOk (a b c d L : Int) : Prop :=
  (-(a*(c-a)+b*(d-b)) ≤ 0 → L*L ≤ a*a+b*b) ∧ (-(a*(c-a)+b*(d-b)) ≥ (c-a)*(c-a)+(d-b)*(d-b) → L*L ≤ c*c+d*d) ∧
  (0 < -(a*(c-a)+b*(d-b)) → -(a*(c-a)+b*(d-b)) < (c-a)*(c-a)+(d-b)*(d-b) → L*L*((c-a)*(c-a)+(d-b)*(d-b)) ≤ (a*(d-b)-b*(c-a))*(a*(d-b)-b*(c-a)))

def inB (x : Int) : Prop := -20000 ≤ x ∧ x ≤ 20000
theorem farlaw_f {a b c d L : Int} (ha : inB a) (hb : inB b) (hc : inB c) (hd : inB d) (hL : 0 ≤ L ∧ L ≤ 20000) (h : FarOk a b c d L) (k : Nat) (hk : 6 ≤ k) :
    swarflaw33_far.f k a b c d L = some true := by
  obtain ⟨k, rfl⟩ : ∃ m, k = m + 6 := ⟨k - 6, by omega⟩
  unfold inB at ha hb hc hd
  have u1 := mulb2 (a := a) (b := c-a) (A := 20000) (B := 40000) (by omega) (by omega) (by omega) (by omega) (by omega) (by omega)
  have u2 := mulb2 (a := b) (b := d-b) (A := 20000) (B := 40000) (by omega) (by omega) (by omega) (by omega) (by omega) (by omega)
  have u3 := mulb2 (a := a) (b := d-b) (A := 20000) (B := 40000) (by omega) (by omega) (by omega) (by omega) (by omega) (by omega)
  have u4 := mulb2 (a := b) (b := c-a) (A := 20000) (B := 40000) (by omega) (by omega) (by omega) (by omega) (by omega) (by omega)
  have v1 := mulb2 (a := a) (b := a) (A := 20000) (B := 20000) (by omega) (by omega) (by omega) (by omega) (by omega) (by omega)
  have v2 := mulb2 (a := b) (b := b) (A := 20000) (B := 20000) (by omega) (by omega) (by omega) (by omega) (by omega) (by omega)
  have v3 := mulb2 (a := c) (b := c) (A := 20000) (B := 20000) (by omega) (by omega) (by omega) (by omega) (by omega) (by omega)
  have v4 := mulb2 (a := d) (b := d) (A := 20000) (B := 20000) (by omega) (by omega) (by omega) (by omega) (by omega) (by omega)
  have v5 := mulb2 (a := L) (b := L) (A := 20000) (B := 20000) (by omega) (by omega) (by omega) (by omega) (by omega) (by omega)
  have w1 := mulb2 (a := c-a) (b := c-a) (A := 40000) (B := 40000) (by omega) (by omega) (by omega) (by omega) (by omega) (by omega)
  have w2 := mulb2 (a := d-b) (b := d-b) (A := 40000) (B := 40000) (by omega) (by omega) (by omega) (by omega) (by omega) (by omega)
  have x1 := mulb2 (a := a*(d-b)-b*(c-a)) (b := a*(d-b)-b*(c-a)) (A := 1600000000) (B := 1600000000) (by omega) (by omega) (by omega) (by omega) (by omega) (by omega)
  have x2 := mulb2 (a := L*L) (b := (c-a)*(c-a)+(d-b)*(d-b)) (A := 400000000) (B := 3200000000) (by omega) (by omega) (by omega) (by omega) (by omega) (by omega)
  unfold swarflaw33_far.f
  simp only [Option.bind_some, List.length_cons, List.length_nil]
  rw [swarflaw33_far.l0, if_pos (by omega), if_pos (by omega), if_pos (by simp), show rd [a, b, c, d] 0 = a from rfl, if_neg (by omega), if_neg (by omega), w64 (x := 0 + 1) (by omega) (by omega)]
  rw [swarflaw33_far.l0, if_pos (by omega), if_pos (by omega), if_pos (by simp), show rd [a, b, c, d] (0+1) = b from rfl, if_neg (by omega), if_neg (by omega), w64 (x := 0 + 1 + 1) (by omega) (by omega)]
  rw [swarflaw33_far.l0, if_pos (by omega), if_pos (by omega), if_pos (by simp), show rd [a, b, c, d] (0+1+1) = c from rfl, if_neg (by omega), if_neg (by omega), w64 (x := 0 + 1 + 1 + 1) (by omega) (by omega)]
  rw [swarflaw33_far.l0, if_pos (by omega), if_pos (by omega), if_pos (by simp), show rd [a, b, c, d] (0+1+1+1) = d from rfl, if_neg (by omega), if_neg (by omega), w64 (x := 0 + 1 + 1 + 1 + 1) (by omega) (by omega)]
  rw [swarflaw33_far.l0, if_neg (by omega)]
  rw [w64 (x := c - a) (by omega) (by omega), w64 (x := d - b) (by omega) (by omega), w64 (x := a*(c-a)) (by omega) (by omega), w64 (x := b*(d-b)) (by omega) (by omega),
    w64 (x := a*(c-a)+b*(d-b)) (by omega) (by omega), w64 (x := -(a*(c-a)+b*(d-b))) (by omega) (by omega),
    w64 (x := (c-a)*(c-a)) (by omega) (by omega), w64 (x := (d-b)*(d-b)) (by omega) (by omega), w64 (x := (c-a)*(c-a)+(d-b)*(d-b)) (by omega) (by omega),
    w64 (x := a*a) (by omega) (by omega), w64 (x := b*b) (by omega) (by omega), w64 (x := a*a+b*b) (by omega) (by omega),
    w64 (x := c*c) (by omega) (by omega), w64 (x := d*d) (by omega) (by omega), w64 (x := c*c+d*d) (by omega) (by omega), w64 (x := L*L) (by omega) (by omega),
    w64 (x := a*(d-b)) (by omega) (by omega), w64 (x := b*(c-a)) (by omega) (by omega), w64 (x := a*(d-b)-b*(c-a)) (by omega) (by omega),
    w64 (x := (a*(d-b)-b*(c-a))*(a*(d-b)-b*(c-a))) (by omega) (by omega), w64 (x := L*L*((c-a)*(c-a)+(d-b)*(d-b))) (by omega) (by omega)]
  obtain ⟨f1, f2, f3⟩ := h
  by_cases t0 : -(a*(c-a)+b*(d-b)) ≤ 0
  · rw [if_pos t0]; congr 1; exact decide_eq_true (f1 t0)
  · rw [if_neg t0]
    by_cases t1 : -(a*(c-a)+b*(d-b)) ≥ (c-a)*(c-a)+(d-b)*(d-b)
    · rw [if_pos t1]; congr 1; exact decide_eq_true (f2 t1)
    · rw [if_neg t1]; congr 1; exact decide_eq_true (f3 (by omega) (by omega))

/-- the rounded point lies within one step of the exact one, along a direction of the first quarter -/
theorem ch_dot {r n k : Int} (hr : 0 ≤ r) (hn : 1 ≤ n) (hk : 0 ≤ k) (w1 w2 C : Int) (h1 : 0 ≤ w1) (h2 : 0 ≤ w2) (hC : (n*n-k*k)*w1 + 2*k*n*w2 = (n*n+k*k)*C) :
    r*C - (w1 + w2) ≤ chX r n k * w1 + chY r n k * w2 := by
  have nn : 1 ≤ n*n := by have := Int.mul_le_mul hn hn (by omega) (by omega); omega
  have kk : 0 ≤ k*k := Int.mul_nonneg hk hk
  have dp : 0 < n*n + k*k := by omega
  have x1 : r*(n*n-k*k) < (chX r n k + 1) * (n*n+k*k) := Int.lt_ediv_add_one_mul_self _ dp
  have y1 : 2*r*k*n < (chY r n k + 1) * (n*n+k*k) := Int.lt_ediv_add_one_mul_self _ dp
  generalize chX r n k = X at *
  generalize chY r n k = Y at *
  have x2 : r*(n*n-k*k)*w1 ≤ (X+1)*(n*n+k*k)*w1 := Int.mul_le_mul_of_nonneg_right (by omega) h1
  have y2 : 2*r*k*n*w2 ≤ (Y+1)*(n*n+k*k)*w2 := Int.mul_le_mul_of_nonneg_right (by omega) h2
  have e1 : r*(n*n-k*k)*w1 + 2*r*k*n*w2 = (n*n+k*k)*(r*C) := by grind
  have e2 : (X+1)*(n*n+k*k)*w1 + (Y+1)*(n*n+k*k)*w2 = (n*n+k*k)*(X*w1+Y*w2+(w1+w2)) := by grind
  have : (n*n+k*k)*(r*C) ≤ (n*n+k*k)*(X*w1+Y*w2+(w1+w2)) := by omega
  have := Int.le_of_mul_le_mul_left this dp
  omega

theorem rot_dot (x y u v t : Int) : (rot x y t).1 * (rot u v t).1 + (rot x y t).2 * (rot u v t).2 = x*u + y*v := by
  unfold rot
  split
  · rfl
  · split
    · simp only; grind
    · split <;> (simp only; grind)

/-- the heart: every chord stays far from the center -/
theorem chord_far {r n m : Int} (hr : 0 ≤ r) (hn : 1 ≤ n) (hm : 0 ≤ m) (hmn : m + 1 ≤ n) (hR : r ≤ 10*(n*n)) (sg t : Int) (hs : sg = 1 ∨ sg = -1) :
    FarOk (rot (chX r n m) (sg * chY r n m) t).1 (rot (chX r n m) (sg * chY r n m) t).2 (rot (chX r n (m+1)) (sg * chY r n (m+1)) t).1 (rot (chX r n (m+1)) (sg * chY r n (m+1)) t).2 (if 0 ≤ r - 7 then r - 7 else 0) := by
  by_cases h7 : 7 ≤ r
  · rw [if_pos (by omega)]
    have key := near_key n m r hn hm hmn hR h7
    simp only [] at key
    obtain ⟨hD, hL⟩ := key
    have mm : 0 ≤ m*(m+1) := Int.mul_nonneg hm (by omega)
    have w1 : 0 ≤ n*n - m*(m+1) := by
      have : m*(m+1) ≤ n*n := Int.mul_le_mul (by omega) hmn (by omega) (by omega)
      omega
    have w2 : 0 ≤ n*(2*m+1) := Int.mul_nonneg (by omega) (by omega)
    have p1 := ch_dot (k := m) hr hn hm (n*n - m*(m+1)) (n*(2*m+1)) (n*n+m*(m+1)) w1 w2 (by grind)
    have p2 := ch_dot (k := m+1) hr hn (by omega) (n*n - m*(m+1)) (n*(2*m+1)) (n*n+m*(m+1)) w1 w2 (by grind)
    have ss : sg * sg = 1 := by rcases hs with rfl | rfl <;> rfl
    have d1 := rot_dot (chX r n m) (sg * chY r n m) (n*n - m*(m+1)) (sg*(n*(2*m+1))) t
    have d2 := rot_dot (chX r n (m+1)) (sg * chY r n (m+1)) (n*n - m*(m+1)) (sg*(n*(2*m+1))) t
    have d3 := rot_sq (n*n - m*(m+1)) (sg*(n*(2*m+1))) t
    have s1 : sg * chY r n m * (sg * (n*(2*m+1))) = chY r n m * (n*(2*m+1)) := by
      have : sg * chY r n m * (sg * (n*(2*m+1))) = (sg*sg) * (chY r n m * (n*(2*m+1))) := by grind
      rw [this, ss, Int.one_mul]
    have s2 : sg * chY r n (m+1) * (sg * (n*(2*m+1))) = chY r n (m+1) * (n*(2*m+1)) := by
      have : sg * chY r n (m+1) * (sg * (n*(2*m+1))) = (sg*sg) * (chY r n (m+1) * (n*(2*m+1))) := by grind
      rw [this, ss, Int.one_mul]
    have s3 : sg * (n*(2*m+1)) * (sg * (n*(2*m+1))) = (n*(2*m+1)) * (n*(2*m+1)) := by
      have : sg * (n*(2*m+1)) * (sg * (n*(2*m+1))) = (sg*sg) * ((n*(2*m+1)) * (n*(2*m+1))) := by grind
      rw [this, ss, Int.one_mul]
    rw [s1] at d1
    rw [s2] at d2
    rw [s3] at d3
    have W : (n*n - m*(m+1))*(n*n - m*(m+1)) + (n*(2*m+1))*(n*(2*m+1)) = (n*n+m*(m+1))*(n*n+m*(m+1)) + n*n := by grind
    rw [W] at d3
    have nn : 1 ≤ n*n := by have := Int.mul_le_mul hn hn (by omega) (by omega); omega
    have cc := sq_nonneg (n*n+m*(m+1))
    generalize rot (chX r n m) (sg * chY r n m) t = P at *
    generalize rot (chX r n (m+1)) (sg * chY r n (m+1)) t = Q at *
    generalize rot (n*n - m*(m+1)) (sg*(n*(2*m+1))) t = w at *
    generalize hDD : r*(n*n+m*(m+1)) - ((n*n - m*(m+1)) + n*(2*m+1)) = D at *
    rw [← d3] at hL
    have a1 : D ≤ P.1*w.1 + P.2*w.2 := by omega
    have a2 : D ≤ Q.1*w.1 + Q.2*w.2 := by omega
    have a3 : 0 < w.1*w.1 + w.2*w.2 := by omega
    refine ⟨fun _ => cs _ _ w.1 w.2 D (r-7) hD a1 hL a3, fun _ => cs _ _ w.1 w.2 D (r-7) hD a2 hL a3, fun t1 t2 => ?_⟩
    exact far_mid P.1 P.2 Q.1 Q.2 w.1 w.2 D (r-7) hD a1 a2 hL a3 (by omega) (by omega) (by omega)
  · rw [if_neg (by omega)]
    refine ⟨fun _ => ?_, fun _ => ?_, fun _ _ => ?_⟩
    · have := sq_nonneg (rot (chX r n m) (sg * chY r n m) t).1
      have := sq_nonneg (rot (chX r n m) (sg * chY r n m) t).2
      omega
    · have := sq_nonneg (rot (chX r n (m+1)) (sg * chY r n (m+1)) t).1
      have := sq_nonneg (rot (chX r n (m+1)) (sg * chY r n (m+1)) t).2
      omega
    · rw [Int.zero_mul, Int.zero_mul]; exact sq_nonneg _
theorem ch_start {r n : Int} (hn : 1 ≤ n) : chX r n 0 = r ∧ chY r n 0 = 0 := by
  have nn : 1 ≤ n*n := by have := Int.mul_le_mul hn hn (by omega) (by omega); omega
  unfold chX chY
  constructor
  · rw [Int.mul_zero, Int.sub_zero, Int.add_zero]; exact Int.mul_ediv_cancel _ (by omega)
  · rw [Int.mul_zero, Int.zero_mul, Int.zero_ediv]

theorem rel_join {s r n kind j : Int} (hn : 1 ≤ n) (s0 : 0 ≤ s) (s3 : s ≤ 3) (hj : 1 ≤ j) (hj4 : j ≤ 4) : rel s r n kind n (j-1) = rel s r n kind 0 j := by
  unfold rel
  rw [(ch_end hn).1, (ch_end hn).2, (ch_start hn).1, (ch_start hn).2]
  unfold sgn turn
  by_cases c : kind = 3
  · simp only [if_pos c]
    have : (s + 3*(j-1)) % 4 = ((s+3*j)%4 + 1) % 4 := by omega
    rw [this]
    have t : (s+3*j)%4 = 0 ∨ (s+3*j)%4 = 1 ∨ (s+3*j)%4 = 2 ∨ (s+3*j)%4 = 3 := by omega
    rcases t with t | t | t | t <;> rw [t] <;> simp [rot]
  · simp only [if_neg c]
    have : (s + (j-1)) % 4 = ((s+j)%4 + 3) % 4 := by omega
    rw [this]
    have t : (s+j)%4 = 0 ∨ (s+j)%4 = 1 ∨ (s+j)%4 = 2 ∨ (s+j)%4 = 3 := by omega
    rcases t with t | t | t | t <;> rw [t] <;> simp [rot]

theorem rel_first {x y r n kind : Int} (hn : 1 ≤ n) (h : onq x y) (hr : (qd x y).2 = r) : rel (qd x y).1 r n kind 0 0 = (x, y) := by
  unfold rel
  rw [(ch_start hn).1, (ch_start hn).2]
  unfold sgn turn
  have P := qd_inv h
  rw [hr] at P
  by_cases c : kind = 3
  · simp only [if_pos c]
    rcases P with ⟨a, b, d⟩ | ⟨a, b, d⟩ | ⟨a, b, d⟩ | ⟨a, b, d⟩ <;> rw [a] <;> simp [rot, b, d]
  · simp only [if_neg c]
    rcases P with ⟨a, b, d⟩ | ⟨a, b, d⟩ | ⟨a, b, d⟩ | ⟨a, b, d⟩ <;> rw [a] <;> simp [rot, b, d]

theorem rel_bounds {s r n kind k j : Int} (hr : 0 ≤ r) (hn : 1 ≤ n) (hk : 0 ≤ k) (hkn : k ≤ n) :
    -r ≤ (rel s r n kind k j).1 ∧ (rel s r n kind k j).1 ≤ r ∧ -r ≤ (rel s r n kind k j).2 ∧ (rel s r n kind k j).2 ≤ r := by
  have b := ch_bounds (k := k) hr hn hk hkn
  unfold rel sgn
  apply rot_bounds
  · omega
  · omega
  · split <;> omega
  · split <;> omega

theorem rel_far {s r n kind k j : Int} (hr : 0 ≤ r) (hn : 1 ≤ n) (hk : 1 ≤ k) (hkn : k ≤ n) (hR : r ≤ 10*(n*n)) :
    FarOk (rel s r n kind (k-1) j).1 (rel s r n kind (k-1) j).2 (rel s r n kind k j).1 (rel s r n kind k j).2 (if 0 ≤ r - 7 then r - 7 else 0) := by
  have h := chord_far (r := r) (n := n) (m := k-1) hr hn (by omega) (by omega) hR (sgn kind) (turn kind s j) (by unfold sgn; split <;> simp)
  rw [show k - 1 + 1 = k by omega] at h
  exact h

/-- the chord that ends at position i begins at the position before, or where the arc begins -/
theorem near_l0 {fx fy fz kind tx ty tz cx cy rate r : Int} (v : validS fx fy fz kind tx ty tz cx cy rate = 0) (a : isarc kind) (hr : ab (fx-cx) + ab (fy-cy) = r) (h20 : r ≤ 20000) (d : Nat) :
    ∀ (k i : Nat), (arcL fx fy fz kind tx ty tz cx cy).length - i = d → i ≤ (arcL fx fy fz kind tx ty tz cx cy).length → d + 10 ≤ k →
    swarflaw33_InterpolateNear.l0 k (arcL fx fy fz kind tx ty tz cx cy) (if 0 ≤ r - 7 then r - 7 else 0) (arcL fx fy fz kind tx ty tz cx cy) ((arcL fx fy fz kind tx ty tz cx cy).length : Int) i fx fy fz kind tx ty tz cx cy rate = some true := by
  have ok := arcOk_of v a
  obtain ⟨o, e, -, c1, c2, -⟩ := validS_ok_arc v a
  have hch := chN_is (r := ab (fx-cx) + ab (fy-cy)) ok.r0 (by have := ok.r1; omega)
  obtain ⟨hl, hl2, hl1⟩ := arcL_length v a
  have hfirst := rel_first (n := chN (ab (fx-cx) + ab (fy-cy))) (kind := kind) ok.n1 o.2.2.1 (qd_on o.2.2.1).2.2.1
  have e' := e
  unfold ends near at e'
  unfold near at c1 c2
  obtain ⟨s0, s3, r0, r1, n1, n2, q1, q4, -, -, -, -⟩ := ok
  have get : ∀ i : Nat, i < (arcL fx fy fz kind tx ty tz cx cy).length → rd_T23 (arcL fx fy fz kind tx ty tz cx cy) (i:Int) =
      arcAt (qd (fx-cx) (fy-cy)).1 (ab (fx-cx) + ab (fy-cy)) (chN (ab (fx-cx) + ab (fy-cy))) kind fz tz cx cy (chN (ab (fx-cx) + ab (fy-cy)) * quartersS fx fy kind tx ty cx cy) i := by
    intro i hi
    rw [hl] at hi
    unfold rd_T23 arcL AL
    simp only [List.getD_eq_getElem?_getD, Int.toNat_natCast, List.getElem?_map, List.getElem?_range hi, Option.map_some, Option.getD_some]
  generalize hL : arcL fx fy fz kind tx ty tz cx cy = L at *
  generalize hs : (qd (fx-cx) (fy-cy)).1 = s at *
  rw [hr] at *
  generalize hq : quartersS fx fy kind tx ty cx cy = q at *
  generalize hnn : chN r = n at *
  induction d with
  | zero =>
    intro k i e1 e2 e3
    obtain ⟨k, rfl⟩ : ∃ m, k = m + 1 := ⟨k - 1, by omega⟩
    rw [swarflaw33_InterpolateNear.l0, if_neg (by omega)]
  | succ d ih =>
    intro k i e1 e2 e3
    obtain ⟨k, rfl⟩ : ∃ m, k = m + 1 := ⟨k - 1, by omega⟩
    have nx := ih k (i+1) (by omega) (by omega) (by omega)
    rw [show ((i+1 : Nat) : Int) = (i:Int)+1 by omega] at nx
    have dm := Int.mul_ediv_add_emod i n
    have mlo := Int.emod_nonneg (i:Int) (show n ≠ 0 by omega)
    have mhi := Int.emod_lt_of_pos (i:Int) (show 0 < n by omega)
    have j0 : 0 ≤ (i:Int)/n := Int.ediv_nonneg (by omega) (by omega)
    have pos : 0 < n*q := Int.mul_pos (by omega) (by omega)
    have jq : (i:Int)/n < q := by
      have : (i:Int) < q*n := by rw [Int.mul_comm]; omega
      exact Int.ediv_lt_of_lt_mul (by omega) this
    have far := rel_far (s := s) (r := r) (n := n) (kind := kind) (k := (i:Int)%n+1) (j := (i:Int)/n) (by omega) n1 (by omega) (by omega) hch.2.1
    have b1 := rel_bounds (s := s) (r := r) (n := n) (kind := kind) (k := (i:Int)%n+1) (j := (i:Int)/n) (by omega) n1 (by omega) (by omega)
    have b2 := rel_bounds (s := s) (r := r) (n := n) (kind := kind) (k := (i:Int)%n+1-1) (j := (i:Int)/n) (by omega) n1 (by omega) (by omega)
    have key : ∀ P : Int × Int, rel s r n kind ((i:Int)%n+1-1) ((i:Int)/n) = P →
        swarflaw33_far.f k P.1 P.2 (rel s r n kind ((i:Int)%n+1) ((i:Int)/n)).1 (rel s r n kind ((i:Int)%n+1) ((i:Int)/n)).2 (if 0 ≤ r - 7 then r - 7 else 0) = some true := by
      intro P hP
      rw [hP] at far b2
      exact farlaw_f (by unfold inB; omega) (by unfold inB; omega) (by unfold inB; omega) (by unfold inB; omega) (by split <;> omega) far k (by omega)
    rw [swarflaw33_InterpolateNear.l0, if_pos (by omega), if_pos (by omega), if_pos (by omega), get i (by omega), arcAt_rel]
    simp only []
    have sub : ∀ c u : Int, c + u - c = u := by intro c u; omega
    rw [sub, sub, w64 (x := (rel s r n kind ((i:Int)%n+1) ((i:Int)/n)).1) (by omega) (by omega), w64 (x := (rel s r n kind ((i:Int)%n+1) ((i:Int)/n)).2) (by omega) (by omega), w64 (x := (i:Int)+1) (by omega) (by omega)]
    by_cases hi0 : (i:Int) > 0
    · rw [if_pos hi0, w64 (x := (i:Int)-1) (by omega) (by omega), if_pos (by omega), if_pos (by omega)]
      rw [show (i:Int) - 1 = ((i-1 : Nat) : Int) by omega, get (i-1) (by omega), arcAt_rel]
      simp only []
      rw [sub, sub]
      have hP : rel s r n kind ((i:Int)%n+1-1) ((i:Int)/n) = rel s r n kind (((i-1 : Nat):Int)%n+1) (((i-1 : Nat):Int)/n) := by
        by_cases z : (i:Int)%n = 0
        · have e3 : ((i-1 : Nat):Int) = (n-1) + ((i:Int)/n - 1)*n := by
            have : ((i:Int)/n - 1)*n = n*((i:Int)/n) - n := by grind
            omega
          have e4 : ((i-1 : Nat):Int) % n = n - 1 := by rw [e3, Int.add_mul_emod_self_right]; exact Int.emod_eq_of_lt (by omega) (by omega)
          have e5 : ((i-1 : Nat):Int) / n = (i:Int)/n - 1 := by rw [e3, Int.add_mul_ediv_right _ _ (by omega), Int.ediv_eq_zero_of_lt (by omega) (by omega)]; omega
          have jp : 1 ≤ (i:Int)/n := by
            rcases Int.lt_or_le ((i:Int)/n) 1 with h | h
            · have : (i:Int)/n = 0 := by omega
              rw [this, Int.mul_zero] at dm; omega
            · exact h
          rw [e4, e5, z, show n - 1 + 1 = n by omega, rel_join n1 s0 s3 jp (by omega)]
          rfl
        · have e3 : ((i-1 : Nat):Int) = ((i:Int)%n - 1) + ((i:Int)/n)*n := by
            have : ((i:Int)/n)*n = n*((i:Int)/n) := Int.mul_comm _ _
            omega
          have e4 : ((i-1 : Nat):Int) % n = (i:Int)%n - 1 := by rw [e3, Int.add_mul_emod_self_right]; exact Int.emod_eq_of_lt (by omega) (by omega)
          have e5 : ((i-1 : Nat):Int) / n = (i:Int)/n := by rw [e3, Int.add_mul_ediv_right _ _ (by omega), Int.ediv_eq_zero_of_lt (by omega) (by omega)]; omega
          rw [e4, e5, show (i:Int)%n - 1 + 1 = (i:Int)%n+1-1 by omega]
      rw [hP] at b2
      rw [w64 (x := (rel s r n kind (((i-1 : Nat):Int)%n+1) (((i-1 : Nat):Int)/n)).1) (by omega) (by omega), w64 (x := (rel s r n kind (((i-1 : Nat):Int)%n+1) (((i-1 : Nat):Int)/n)).2) (by omega) (by omega), key _ hP]
      simp only [Option.bind_some, if_true]
      exact nx
    · obtain rfl : i = 0 := by omega
      rw [if_neg hi0, w64 (x := fx - cx) (by omega) (by omega), w64 (x := fy - cy) (by omega) (by omega)]
      have z1 : ((0:Nat):Int) % n = 0 := Int.zero_emod n
      have z2 : ((0:Nat):Int) / n = 0 := Int.zero_ediv n
      have kk := key (fx-cx, fy-cy) (by rw [z1, z2]; exact hfirst)
      rw [kk]
      simp only [Option.bind_some, if_true]
      exact nx

theorem law_near {fx fy fz kind tx ty tz cx cy rate : Int} (h1 : I64 fx) (h2 : I64 fy) (h2z : I64 fz) (h3 : I64 tx) (h4 : I64 ty) (h4z : I64 tz) (h5 : I64 cx) (h6 : I64 cy) :
    swarflaw33_InterpolateNear.f 7000 fx fy fz kind tx ty tz cx cy rate = some true := by
  unfold swarflaw33_InterpolateNear.f
  rw [awake_at 7000 (by omega), rvalid_f 7000 (by omega) h1 h2 h3 h4 h5 h6]
  simp only [Option.bind_some, if_true]
  have away : swarflaw33_InterpolateNear.j0 7000 true fx fy fz kind tx ty tz cx cy rate = some true := by
    rw [swarflaw33_InterpolateNear.j0, if_pos (by rfl), awake_at _ (by omega)]; rfl
  by_cases v : validS fx fy fz kind tx ty tz cx cy rate = 0
  · rw [if_pos v]
    obtain ⟨r, er, her⟩ := radius_f (fz := fz) (kind := kind) (tx := tx) (ty := ty) (tz := tz) (rate := rate) h1 h2 h5 h6
    have main : isarc kind → ((swarfref33_Radius.f fx fy fz kind tx ty tz cx cy rate).bind fun t301 => swarflaw33_InterpolateNear.j0 7000 (decide (t301 > 20000)) fx fy fz kind tx ty tz cx cy rate) = some true := by
      intro a
      obtain ⟨o, e, r4, c1, c2, rr⟩ := validS_ok_arc v a
      have := her e.1 e.2.1 c1 c2
      rw [er]
      simp only [Option.bind_some]
      by_cases big : r > 20000
      · rw [decide_eq_true big]; exact away
      · rw [decide_eq_false big, swarflaw33_InterpolateNear.j0, if_neg (by decide), Arc_f _ (by omega) h1 h2 h2z h3 h4 h4z h5 h6]
        unfold arcR
        simp only [Option.bind_some, if_pos a, if_pos v, er, if_true]
        have r0 := (qd_on o.2.2.1).2.2
        have m1 : mx 0 (wrap64 (wrap64 (r - 5) - 2)) = (if 0 ≤ r - 7 then r - 7 else 0) := by
          rw [w64 (x := r - 5) (by omega) (by omega), w64 (x := r - 5 - 2) (by omega) (by omega)]
          unfold mx
          by_cases z : 0 ≤ r - 7
          · rw [if_pos z]; split <;> omega
          · rw [if_neg z, if_neg (by omega)]
        rw [m1]
        have hlen := arcL_length v a
        exact near_l0 v a this.symm (by omega) (arcL fx fy fz kind tx ty tz cx cy).length _ 0 (by omega) (by omega) (by omega)
    by_cases c3 : kind = 3
    · rw [if_pos c3]; exact main (.inl c3)
    · rw [if_neg c3]
      by_cases c4 : kind = 4
      · rw [if_pos c4]; exact main (.inr c4)
      · rw [if_neg c4]; exact away
  · rw [if_neg v]; exact away


end Go.Proofs.Ytblonchpophnkaa.Pure
