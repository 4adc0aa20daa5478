/- Plain facts: the reference has the same list of positions of an arc. -/
import Derived.Test.YtblonchpophnkaaMathB
import Derived.Test.YtblonchpophnkaaFx26
import Derived.Test.YtblonchpophnkaaFx27
import Derived.Test.YtblonchpophnkaaFx28
import Derived.Test.YtblonchpophnkaaFx29
import Derived.OpenShut
namespace Go.Proofs.Ytblonchpophnkaa.Pure
open Go.RowKit Go.Proofs.Ytblonchpophnkaa.F Go.Proofs.YtblonchpophnkaaW.PrintWords Go.Proofs.YtblonchpophnkaaW.PrintLast Go.Proofs.YtblonchpophnkaaW.PrintMore
set_option linter.unusedVariables false
set_option linter.unusedSimpArgs false
theorem down_f {a b : Int} (hb : 0 < b) (h1 : -1000000000000000000 ≤ a) (h2 : a ≤ 1000000000000000000) : swarfref33_down.f a b = some (a / b) := floor_f hb h1 h2

theorem rturned_l0 (x y t i : Int) (k : Nat) : swarfref33_turned.l0 k x y t i = interpolate_turned.l0 k x y t i := by
  induction k generalizing x y i with
  | zero => rfl
  | succ k ih => simp only [swarfref33_turned.l0, interpolate_turned.l0, ih]
theorem rturned_f {x y : Int} (t : Int) (k : Nat) (h0 : 0 ≤ t) (h3 : t ≤ 3) (hk : 5 ≤ k) (hx1 : -100000000 ≤ x) (hx2 : x ≤ 100000000) (hy1 : -100000000 ≤ y) (hy2 : y ≤ 100000000) :
    swarfref33_turned.f k x y t = some (rot x y t) := by
  unfold swarfref33_turned.f
  rw [rturned_l0]; exact turned_l0 t k h0 h3 hk hx1 hx2 hy1 hy2

theorem rchords_l0 {r : Int} (h0 : 0 < r) (h1 : r ≤ 10000000) (d : Nat) : ∀ (k : Nat) (x : Int), 1 ≤ x → chN r - x = d → d < k → swarfref33_Chords.l0 k r x = some (chN r) := by
  have hN := chN_is (r := r) h0 (by omega)
  have hb := chN_le h0 h1
  induction d with
  | zero =>
    intro k x hx hd hk
    obtain ⟨k, rfl⟩ : ∃ m, k = m + 1 := ⟨k - 1, by omega⟩
    obtain rfl : x = chN r := by omega
    have q := sq_le (a := chN r) (b := 1000) (by omega) (by omega)
    have q0 : 0 ≤ chN r * chN r := Int.mul_nonneg (by omega) (by omega)
    simp only [swarfref33_Chords.l0]
    rw [if_pos (by omega), w64 (x := 10 * chN r) (by omega) (by omega), Int.mul_assoc, w64 (by omega) (by omega), if_neg (by have := hN.2.1; omega)]
  | succ d ih =>
    intro k x hx hd hk
    obtain ⟨k, rfl⟩ : ∃ m, k = m + 1 := ⟨k - 1, by omega⟩
    have q := sq_le (a := x) (b := 1000) (by omega) (by omega)
    have q0 : 0 ≤ x * x := Int.mul_nonneg (by omega) (by omega)
    have lt : 10*(x*x) < r := by
      have := hN.2.2
      have := sq_le (a := x) (b := chN r - 1) (by omega) (by omega)
      omega
    simp only [swarfref33_Chords.l0]
    rw [if_pos (by omega), w64 (x := 10 * x) (by omega) (by omega), Int.mul_assoc, w64 (x := 10 * (x*x)) (by omega) (by omega), if_pos lt, w64 (x := x+1) (by omega) (by omega)]
    exact ih k (x+1) (by omega) (by omega) (by omega)
theorem rchords_N {r : Int} (k : Nat) (hk : 1001 ≤ k) (h0 : 0 < r) (h1 : r ≤ 10000000) : swarfref33_Chords.f k r = some (chN r) := by
  have hb := chN_le h0 h1
  unfold swarfref33_Chords.f
  rw [if_neg (by omega)]
  exact rchords_l0 h0 h1 (chN r - 1).toNat k 1 (by omega) (by omega) (by omega)

theorem rarc_l0 {s r n q fx fy fz kind tx ty tz cx cy rate : Int} (h : ArcOk s r n q fz tz cx cy) (d : Nat) :
    ∀ (k m : Nat), n*q - m = d → d + 10 ≤ k → (m : Int) ≤ n*q →
    swarfref33_Arc.l0 k s r n (n*q) (AL s r n kind fz tz cx cy (n*q) m) m fx fy fz kind tx ty tz cx cy rate = some (AL s r n kind fz tz cx cy (n*q) (n*q).toNat, 0) := by
  have h' := h
  obtain ⟨s0, s3, r0, r1, n1, n2, q1, q4, fz0, tz0, cx0, cy0⟩ := h'
  have nq := mulb (a := n) (b := q) (A := 1000) (B := 4) (by omega) (by omega) (by omega) (by omega) (by omega)
  unfold near at cx0 cy0
  induction d with
  | zero =>
    intro k m hd hk hm
    obtain ⟨k, rfl⟩ : ∃ m, k = m + 1 := ⟨k - 1, by omega⟩
    have : m = (n*q).toNat := by omega
    subst this
    rw [swarfref33_Arc.l0, if_neg (by omega), AL_length, if_neg (by omega)]
  | succ d ih =>
    intro k m hd hk hm
    obtain ⟨k, rfl⟩ : ∃ m, k = m + 1 := ⟨k - 1, by omega⟩
    have dm := Int.mul_ediv_add_emod m n
    have mlo := Int.emod_nonneg (m:Int) (show n ≠ 0 by omega)
    have mhi := Int.emod_lt_of_pos (m:Int) (show 0 < n by omega)
    have j0 : 0 ≤ (m:Int)/n := Int.ediv_nonneg (by omega) (by omega)
    have jq : (m:Int)/n < q := by
      have : (m:Int) < q*n := by rw [Int.mul_comm]; omega
      exact Int.ediv_lt_of_lt_mul (by omega) this
    generalize hjj : (m:Int)/n = j at *
    generalize hkk : (m:Int)%n + 1 = kk at *
    have hm2 : (m : Int) = j*n + (kk-1) := by rw [Int.mul_comm]; omega
    obtain ⟨b1, lt, e1, e2, el⟩ := arc_elem (kind := kind) h j kk m j0 jq (by omega) (by omega) hm2
    obtain ⟨cX, cY, c0⟩ := chX_f (k := kk) (by omega) r1 n1 n2 (by omega) (by omega)
    obtain ⟨x0, x1, y0, y1⟩ := ch_bounds (r := r) (n := n) (k := kk) (by omega) n1 (by omega) (by omega)
    obtain ⟨z1, z2, z3, z4⟩ := z_bounds (n := n) (q := q) (m : Int) n1 q1 fz0 tz0 (by omega) b1 lt
    have pos : 0 < n*q := Int.mul_pos (by omega) (by omega)
    have t1 : Int.tmod (m:Int) n = kk - 1 := by rw [Int.tmod_eq_emod_of_nonneg (by omega)]; omega
    have t2 : Int.tdiv (m:Int) n = j := by rw [Int.tdiv_eq_ediv_of_nonneg (by omega)]; omega
    have t3 : wrap64 (kk - 1 + 1) = kk := by rw [show kk - 1 + 1 = kk by omega]; exact w64 (by omega) (by omega)
    have lm : m < 5864062014805 := by omega
    rw [swarfref33_Arc.l0]
    rw [t1, t2, t3, if_pos (by omega), if_neg (by omega), if_neg c0, cX, cY, AL_length, z1]
    simp only [down_f pos (by omega : -1000000000000000000 ≤ (tz-fz)*((m:Int)+1)) (by omega : (tz-fz)*((m:Int)+1) ≤ 1000000000000000000)]
    clear t1 t2 t3 cX cY c0
    have nx := ih k (m+1) (by omega) (by omega) (by omega)
    rw [AL_succ s r n kind fz tz cx cy (n*q) m, el, show ((m+1 : Nat) : Int) = (m:Int)+1 by omega] at nx
    rw [w64 (x := (m:Int)+1) (by omega) (by omega), w64 (x := j) (by omega) (by omega), w64 (x := 3*j) (by omega) (by omega), w64 (x := s+3*j) (by omega) (by omega), w64 (x := s+j) (by omega) (by omega),
      Int.tmod_eq_emod_of_nonneg (by omega), Int.tmod_eq_emod_of_nonneg (by omega)]
    by_cases c : kind = 3
    · rw [if_pos c, w64 (x := -(chY r n kk)) (by omega) (by omega)]
      rw [rturned_f ((s+3*j)%4) _ (by omega) (by omega) (by omega) (by omega) (by omega) (by omega) (by omega)]
      have rb := rot_bounds (t := (s+3*j)%4) (B := 10000000) (x := chX r n kk) (y := -(chY r n kk)) (by omega) (by omega) (by omega) (by omega)
      simp only [if_pos c] at nx
      simp only [Option.bind_some]
      rw [if_pos lm, z4, w64 (x := cx + _) (by omega) (by omega), w64 (x := cy + _) (by omega) (by omega), ← nx]
    · rw [if_neg c]
      rw [rturned_f ((s+j)%4) _ (by omega) (by omega) (by omega) (by omega) (by omega) (by omega) (by omega)]
      have rb := rot_bounds (t := (s+j)%4) (B := 10000000) (x := chX r n kk) (y := chY r n kk) (by omega) (by omega) (by omega) (by omega)
      simp only [if_neg c] at nx
      simp only [Option.bind_some]
      rw [if_pos lm, z4, w64 (x := cx + _) (by omega) (by omega), w64 (x := cy + _) (by omega) (by omega), ← nx]

theorem rArc_f {fx fy fz kind tx ty tz cx cy rate : Int} (k : Nat) (hk : 6000 ≤ k) (h1 : I64 fx) (h2 : I64 fy) (h3 : I64 tx) (h4 : I64 ty) (h5 : I64 cx) (h6 : I64 cy) :
    swarfref33_Arc.f k fx fy fz kind tx ty tz cx cy rate = some (arcR fx fy fz kind tx ty tz cx cy rate) := by
  unfold swarfref33_Arc.f arcR
  rw [rquarters_f k (by omega) h1 h2 h3 h4 h5 h6]
  unfold quartersR
  simp only [Option.bind_some]
  by_cases a : isarc kind
  · simp only [if_pos a]
    by_cases v : validS fx fy fz kind tx ty tz cx cy rate = 0
    · simp only [if_pos v, if_true]
      have ok := arcOk_of v a
      obtain ⟨o, e, -, c1, c2, -⟩ := validS_ok_arc v a
      have e' := e
      unfold ends near at e'
      unfold near at c1 c2
      rw [w64 (x := fx - cx) (by omega) (by omega), w64 (x := fy - cy) (by omega) (by omega)]
      rw [quadrant_f k (by omega) (by omega) (by omega)]
      simp only [Option.bind_some]
      rw [(qd_on o.2.2.1).2.2.1]
      have h' := ok
      obtain ⟨s0, s3, r0, r1, n1, n2, q1, q4, -, -, -, -⟩ := h'
      unfold arcL
      generalize hr : ab (fx-cx) + ab (fy-cy) = r at *
      generalize hs : (qd (fx-cx) (fy-cy)).1 = s at *
      generalize hq : quartersS fx fy kind tx ty cx cy = q at *
      rw [rchords_N k (by omega) r0 (by omega)]
      simp only [Option.bind_some]
      have nq := mulb (a := chN r) (b := q) (A := 1000) (B := 4) (by omega) (by omega) (by omega) (by omega) (by omega)
      have pos : 0 < chN r * q := Int.mul_pos (by omega) (by omega)
      rw [Int.mul_comm q (chN r), w64 (x := chN r * q) (by omega) (by omega)]
      exact rarc_l0 ok (chN r * q).toNat k 0 (by omega) (by omega) (by omega)
    · simp only [if_neg v]
  · simp only [if_neg a]
    rw [if_neg (by omega)]


end Go.Proofs.Ytblonchpophnkaa.Pure
