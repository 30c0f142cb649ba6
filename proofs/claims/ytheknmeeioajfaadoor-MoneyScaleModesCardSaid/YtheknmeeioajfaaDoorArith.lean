/- Numbers of 64 bits in plain words: wraps, masks, joins of bits, and the step of the long division by which math/bits.Div64 divides. -/
import Derived.Test.YtheknmeeioajfaaDoorEv
import Derived.Laws.BitsLemmas
import Derived.Laws.Bits64
import Derived.IntWalk
import Derived.Lib.ItoaNum
import Derived.Test.YtheknmeeioajfaaDoorELz
import Derived.Test.YtheknmeeioajfaaDoorF2 -- bits_Div64
namespace Go.Proofs.YtheknmeeioajfaaDoor.D
set_option linter.unusedVariables false
set_option linter.unusedSimpArgs false
open Go.RowKit Go.Proofs.YtheknmeeioajfaaDoorW.PrintWords Go.Proofs.YtheknmeeioajfaaDoorW.PrintMore
theorem u64w {x : Int} (h0 : 0 ≤ x) (h1 : x < 18446744073709551616) : IntKind.u64.wrap x = x := IntWalk.u64_in x ⟨h0, by omega⟩
theorem wraps_u64 (n : Int) (h0 : 0 ≤ n) (h1 : n < 2 ^ 64) : IntKind.u64.wrap n = n := u64w h0 (by simpa using h1)
theorem wraps_i64 (n : Int) (h0 : 0 ≤ n) (h1 : n < 2 ^ 63) : IntKind.i64.wrap n = n := IntWalk.i64_in n ⟨by omega, by omega⟩
theorem and_mask32 {x : Int} (h0 : 0 ≤ x) (h1 : x < 18446744073709551616) : bits .and .u64 x 4294967295 = x % 4294967296 := by
  have := bits_mask .u64 64 (by decide) wraps_u64 32 (by decide) x h0 (by simpa using h1)
  simpa using this
theorem and_one {x : Int} (h0 : 0 ≤ x) (h1 : x < 18446744073709551616) : bits .and .u64 x 1 = x % 2 := by
  have := bits_mask .u64 64 (by decide) wraps_u64 1 (by decide) x h0 (by simpa using h1)
  simpa using this
theorem and_63 {x : Int} (h0 : 0 ≤ x) (h1 : x < 9223372036854775808) : bits .and .i64 x 63 = x % 64 := by
  have := bits_mask .i64 63 (by decide) wraps_i64 6 (by decide) x h0 (by simpa using h1)
  simpa using this
theorem or_join {x y : Int} (s : Nat) (hs : s ≤ 64) (hx0 : 0 ≤ x) (hx : x % 2 ^ s = 0) (hx1 : x < 18446744073709551616) (hy0 : 0 ≤ y) (hy : y < 2 ^ s) : bits .or .u64 x y = x + y := by
  have h64 : (2 : Int) ^ s ≤ 2 ^ 64 := by
    have := Nat.pow_le_pow_right (show 0 < 2 by decide) hs
    exact_mod_cast this
  exact bits_join .u64 64 (by decide) wraps_u64 s x y hx0 hx (by simpa using hx1) hy0 hy (by omega)
theorem or_one {x : Int} (h0 : 0 ≤ x) (h1 : x < 18446744073709551616) (he : x % 2 = 0) : bits .or .u64 x 1 = x + 1 := or_join 1 (by decide) h0 (by simpa using he) h1 (by decide) (by decide)
theorem shl_in {x : Int} {s : Nat} (hs : s ≤ 64) (h0 : 0 ≤ x * 2 ^ s) (h1 : x * 2 ^ s < 18446744073709551616) : shl .u64 x (s : Int) = x * 2 ^ s := by
  unfold shl
  rw [Int.toNat_natCast, Nat.min_eq_left (show s ≤ IntKind.u64.bits by exact hs), u64w h0 h1]
theorem shr_in {x : Int} {s : Nat} (hs : s ≤ 64) : shr .u64 x (s : Int) = x / 2 ^ s := by
  unfold shr
  rw [Int.toNat_natCast, Nat.min_eq_left (show s ≤ IntKind.u64.bits by exact hs)]
/-- One step of the long division: q is an estimate of Q = (u * 2^32 + t) / v, and e what the estimate leaves of u. -/
structure Kn (v a b u t q e Q : Int) : Prop where
  hv : v = a * 4294967296 + b
  a0 : 2147483648 ≤ a
  a1 : a < 4294967296
  b0 : 0 ≤ b
  b1 : b < 4294967296
  t0 : 0 ≤ t
  t1 : t < 4294967296
  uv : u < v
  eq : q * a + e = u
  e0 : 0 ≤ e
  e1 : e < 4294967296
  lo : Q * v ≤ u * 4294967296 + t
  hi : u * 4294967296 + t < (Q + 1) * v
  Q0 : 0 ≤ Q
  qQ : Q ≤ q
  qB : q ≤ 4294967297
theorem Kn.v0 {v a b u t q e Q : Int} (h : Kn v a b u t q e Q) : 0 < v := by have := h.hv; have := h.a0; have := h.b0; omega
theorem Kn.mul {v a b u t q e Q : Int} (h : Kn v a b u t q e Q) : q * v = q * a * 4294967296 + q * b := by rw [h.hv, Int.mul_add, ← Int.mul_assoc]
theorem Kn.QB {v a b u t q e Q : Int} (h : Kn v a b u t q e Q) : Q < 4294967296 := by
  have hv := h.v0
  have h1 := h.lo
  have h2 := h.uv
  have h3 := h.t1
  by_cases hc : Q < 4294967296
  · exact hc
  · have := Int.mul_le_mul_of_nonneg_right (show (4294967296 : Int) ≤ Q by omega) (Int.le_of_lt hv)
    omega
theorem Kn.le_iff {v a b u t q e Q : Int} (h : Kn v a b u t q e Q) (p : Int) : p ≤ Q ↔ p * v ≤ u * 4294967296 + t := by
  have hv := h.v0
  constructor
  · intro hp
    exact Int.le_trans (Int.mul_le_mul_of_nonneg_right hp (Int.le_of_lt hv)) h.lo
  · intro hp
    by_cases hc : p ≤ Q
    · exact hc
    · have := Int.mul_le_mul_of_nonneg_right (show Q + 1 ≤ p by omega) (Int.le_of_lt hv)
      have := h.hi
      omega
theorem Kn.test {v a b u t q e Q : Int} (h : Kn v a b u t q e Q) : (q * b > 4294967296 * e + t) ↔ Q < q := by
  have h1 := h.le_iff q
  have h2 := h.mul
  have h3 := h.eq
  have h4 := h.qQ
  rw [h2] at h1
  generalize q * a = p at h1 h3
  generalize q * b = r at h1
  constructor
  · intro hc
    have : ¬ q ≤ Q := fun hq => by have := h1.1 hq; omega
    omega
  · intro hc
    have : ¬ (p * 4294967296 + r ≤ u * 4294967296 + t) := fun hq => by have := h1.2 hq; omega
    omega
theorem Kn.last {v a b u t q e Q : Int} (h : Kn v a b u t q e Q) (hq : Q < q) (he : 4294967296 ≤ e + a) : q - 1 = Q := by
  have h1 := h.le_iff (q - 1)
  have h3 := h.eq
  have hb := h.b1
  have hb0 := h.b0
  have ht := h.t0
  have hqB := h.qB
  have hQ := h.Q0
  have e1 : (q - 1) * v = (q * a - a) * 4294967296 + (q - 1) * b := by rw [h.hv, Int.mul_add, ← Int.mul_assoc, Int.sub_mul, Int.one_mul]
  have e2 : (q - 1) * b ≤ 4294967296 * b := Int.mul_le_mul_of_nonneg_right (by omega) hb0
  rw [e1] at h1
  generalize q * a = p at h1 h3
  generalize (q - 1) * b = r at h1 e2
  have := h1.2 (by omega)
  omega
theorem Kn.next {v a b u t q e Q : Int} (h : Kn v a b u t q e Q) (hq : Q < q) (he : e + a < 4294967296) : Kn v a b u t (q - 1) (e + a) Q where
  hv := h.hv
  a0 := h.a0
  a1 := h.a1
  b0 := h.b0
  b1 := h.b1
  t0 := h.t0
  t1 := h.t1
  uv := h.uv
  eq := by have := h.eq; rw [Int.sub_mul, Int.one_mul]; omega
  e0 := by have := h.e0; have := h.a0; omega
  e1 := he
  lo := h.lo
  hi := h.hi
  Q0 := h.Q0
  qQ := by omega
  qB := by have := h.qB; omega
theorem Kn.first {v a b u t : Int} (hv : v = a * 4294967296 + b) (a0 : 2147483648 ≤ a) (a1 : a < 4294967296) (b0 : 0 ≤ b) (b1 : b < 4294967296) (t0 : 0 ≤ t) (t1 : t < 4294967296) (u0 : 0 ≤ u) (uv : u < v) :
    Kn v a b u t (u / a) (u - u / a * a) ((u * 4294967296 + t) / v) := by
  have hv0 : 0 < v := by omega
  have ha : 0 < a := by omega
  have hd := Int.mul_ediv_add_emod u a
  have hm := Int.emod_nonneg u (show a ≠ 0 by omega)
  have hm1 := Int.emod_lt_of_pos u ha
  have hc : u / a * a = a * (u / a) := Int.mul_comm _ _
  have hD := Int.mul_ediv_add_emod (u * 4294967296 + t) v
  have hM := Int.emod_nonneg (u * 4294967296 + t) (show v ≠ 0 by omega)
  have hM1 := Int.emod_lt_of_pos (u * 4294967296 + t) hv0
  have hC : (u * 4294967296 + t) / v * v = v * ((u * 4294967296 + t) / v) := Int.mul_comm _ _
  have hlo : (u * 4294967296 + t) / v * v ≤ u * 4294967296 + t := by omega
  refine ⟨hv, a0, a1, b0, b1, t0, t1, uv, by omega, by omega, by omega, hlo, by rw [Int.add_mul, Int.one_mul]; omega, Int.ediv_nonneg (by omega) (by omega), ?_, ?_⟩
  · generalize hQ : (u * 4294967296 + t) / v = Q at hlo
    rw [Int.le_ediv_iff_mul_le ha]
    have hQ0 : 0 ≤ Q := by rw [← hQ]; exact Int.ediv_nonneg (by omega) (by omega)
    have e1 : Q * v = Q * a * 4294967296 + Q * b := by rw [hv, Int.mul_add, ← Int.mul_assoc]
    have e2 : 0 ≤ Q * b := Int.mul_nonneg hQ0 b0
    omega
  · have : u / a < 4294967298 := by
      rw [Int.ediv_lt_iff_lt_mul ha]
      omega
    omega
end Go.Proofs.YtheknmeeioajfaaDoor.D
namespace Go.Proofs.YtheknmeeioajfaaDoor.D
set_option linter.unusedVariables false
set_option linter.unusedSimpArgs false
open Go.RowKit Go.Proofs.YtheknmeeioajfaaDoor.F Go.Proofs.YtheknmeeioajfaaDoorW.PrintWords Go.Proofs.YtheknmeeioajfaaDoorW.PrintMore
theorem u64m {x : Int} : IntKind.u64.wrap x = x % 18446744073709551616 := IntKind.wrap_u64 x
theorem mul_lt {a b : Int} (a0 : 0 ≤ a) (a1 : a < 4294967296) (b0 : 0 ≤ b) (b1 : b < 4294967296) : 0 ≤ a * b ∧ a * b < 18446744073709551616 := by
  constructor
  · exact Int.mul_nonneg a0 b0
  · have h1 : a * b ≤ 4294967295 * b := Int.mul_le_mul_of_nonneg_right (by omega) b0
    omega
theorem div_l0 {v a b u t Q : Int} (s un0 : Int) {r : Int × Int} (hr : Ev (fun k => bits_Div64.j2 k v s a b u t un0 Q) r) (d : Nat) : ∀ q e : Int, Kn v a b u t q e Q → q - Q ≤ d → Ev (fun k => bits_Div64.l0 k v s a b u t un0 q e) r := by
  induction d with
  | zero =>
    intro q e h hd
    have hq : q = Q := by have := h.qQ; omega
    have hB := h.QB
    have hQ0 := h.Q0
    have hm := mul_lt h.Q0 hB h.b0 h.b1
    have he0 := h.e0
    have he1 := h.e1
    have ht0 := h.t0
    have ht1 := h.t1
    have ht := h.test
    subst hq
    refine Ev.step (fun k => by rw [bits_Div64.l0]) (ev_neg (by omega) ?_)
    rw [u64w hm.1 hm.2, u64w (x := 4294967296 * e) (by omega) (by omega), u64w (x := 4294967296 * e + t) (by omega) (by omega), decide_eq_false (fun hc => by have := ht.1 hc; omega)]
    exact Ev.step (fun k => by rw [bits_Div64.j1]) (ev_neg (by decide) hr)
  | succ d ih =>
    intro q e h hd
    have hB := h.QB
    have hQ0 := h.Q0
    have he0 := h.e0
    have he1 := h.e1
    have ht0 := h.t0
    have ht1 := h.t1
    have ha0 := h.a0
    have ha1 := h.a1
    have hqQ := h.qQ
    have hqB := h.qB
    have dec : Q < q → Ev (fun k => bits_Div64.j1 k v s a b u t un0 q e true) r := fun hq => by
      refine Ev.step (fun k => by rw [bits_Div64.j1]) (ev_pos rfl ?_)
      rw [u64w (x := e + a) (by omega) (by omega), u64w (x := q - 1) (by omega) (by omega)]
      refine ev_ite (fun hc => ?_) (fun hc => ?_)
      · rw [h.last hq hc]; exact hr
      · exact ih _ _ (h.next hq (by omega)) (by omega)
    refine Ev.step (fun k => by rw [bits_Div64.l0]) ?_
    refine ev_ite (fun hc => dec (by omega)) (fun hc => ?_)
    have hm := mul_lt (show 0 ≤ q by omega) (show q < 4294967296 by omega) h.b0 h.b1
    rw [u64w hm.1 hm.2, u64w (x := 4294967296 * e) (by omega) (by omega), u64w (x := 4294967296 * e + t) (by omega) (by omega)]
    by_cases hq : Q < q
    · rw [decide_eq_true (h.test.2 hq)]
      exact dec hq
    · rw [decide_eq_false (fun hc => hq (h.test.1 hc))]
      have : q = Q := by omega
      subst this
      exact Ev.step (fun k => by rw [bits_Div64.j1]) (ev_neg (by decide) hr)
theorem div_l1 {v a b u t Q : Int} (s q1 : Int) (hs : 0 ≤ s) {r : Int × Int} (hr : (IntKind.u64.wrap ((IntKind.u64.wrap (q1 * 4294967296)) + Q), shr .u64 (IntKind.u64.wrap ((IntKind.u64.wrap ((IntKind.u64.wrap (u * 4294967296)) + t)) - (IntKind.u64.wrap (Q * v)))) s) = r) (d : Nat) :
    ∀ q e : Int, Kn v a b u t q e Q → q - Q ≤ d → Ev (fun k => bits_Div64.l1 k v s a b t q1 e u q) r := by
  induction d with
  | zero =>
    intro q e h hd
    have hq : q = Q := by have := h.qQ; omega
    have hB := h.QB
    have hQ0 := h.Q0
    have hm := mul_lt h.Q0 hB h.b0 h.b1
    have he0 := h.e0
    have he1 := h.e1
    have ht0 := h.t0
    have ht1 := h.t1
    have ht := h.test
    subst hq
    refine Ev.step (fun k => by rw [bits_Div64.l1]) (ev_neg (by omega) ?_)
    rw [u64w hm.1 hm.2, u64w (x := 4294967296 * e) (by omega) (by omega), u64w (x := 4294967296 * e + t) (by omega) (by omega), decide_eq_false (fun hc => by have := ht.1 hc; omega)]
    exact Ev.step (fun k => by rw [bits_Div64.j4]) (ev_neg (by decide) (ev_pos hs (ev_eq (Ev.now _) hr)))
  | succ d ih =>
    intro q e h hd
    have hB := h.QB
    have hQ0 := h.Q0
    have he0 := h.e0
    have he1 := h.e1
    have ht0 := h.t0
    have ht1 := h.t1
    have ha0 := h.a0
    have ha1 := h.a1
    have hqQ := h.qQ
    have hqB := h.qB
    have dec : Q < q → Ev (fun k => bits_Div64.j4 k v s a b t q1 e u q true) r := fun hq => by
      refine Ev.step (fun k => by rw [bits_Div64.j4]) (ev_pos rfl ?_)
      rw [u64w (x := e + a) (by omega) (by omega), u64w (x := q - 1) (by omega) (by omega)]
      refine ev_ite (fun hc => ?_) (fun hc => ?_)
      · rw [h.last hq hc]; exact ev_pos hs (ev_eq (Ev.now _) hr)
      · exact ih _ _ (h.next hq (by omega)) (by omega)
    refine Ev.step (fun k => by rw [bits_Div64.l1]) ?_
    refine ev_ite (fun hc => dec (by omega)) (fun hc => ?_)
    have hm := mul_lt (show 0 ≤ q by omega) (show q < 4294967296 by omega) h.b0 h.b1
    rw [u64w hm.1 hm.2, u64w (x := 4294967296 * e) (by omega) (by omega), u64w (x := 4294967296 * e + t) (by omega) (by omega)]
    by_cases hq : Q < q
    · rw [decide_eq_true (h.test.2 hq)]
      exact dec hq
    · rw [decide_eq_false (fun hc => hq (h.test.1 hc))]
      have : q = Q := by omega
      subst this
      exact Ev.step (fun k => by rw [bits_Div64.j4]) (ev_neg (by decide) (ev_pos hs (ev_eq (Ev.now _) hr)))
/-- What is left of a step, though each part wraps. -/
theorem wrap_left {u t Q v : Int} (h0 : 0 ≤ u * 4294967296 + t - Q * v) (h1 : u * 4294967296 + t - Q * v < 18446744073709551616) :
    IntKind.u64.wrap ((IntKind.u64.wrap ((IntKind.u64.wrap (u * 4294967296)) + t)) - (IntKind.u64.wrap (Q * v))) = u * 4294967296 + t - Q * v := by
  rw [u64m, u64m, u64m, u64m]
  generalize Q * v = p at h0 h1 ⊢
  omega
theorem two_pow_split (s : Nat) (hs : s ≤ 64) : (2 : Int) ^ s * 2 ^ (64 - s) = 18446744073709551616 := by
  rw [← Int.pow_add, show s + (64 - s) = 64 by omega]; decide
theorem div64_ev (hi lo y : Int) (h0 : 0 ≤ hi) (h1 : hi < y) (h2 : y < 18446744073709551616) (l0 : 0 ≤ lo) (l1 : lo < 18446744073709551616) :
    Ev (fun k => bits_Div64.f k hi lo y) ((hi * 18446744073709551616 + lo) / y, (hi * 18446744073709551616 + lo) % y) := by
  unfold bits_Div64.f
  refine ev_neg (by omega) (ev_neg (by omega) (ev_ite (fun hz => ?_) (fun hz => ?_)))
  · subst hz
    have hq : lo / y ≤ lo := Int.ediv_le_self y l0
    have hq0 : 0 ≤ lo / y := Int.ediv_nonneg l0 (by omega)
    rw [tdiv_pos l0, tmod_pos l0, u64w (by omega) (by omega), Int.zero_mul, Int.zero_add]
    exact Ev.now _
  · obtain ⟨yn, rfl⟩ := Int.eq_ofNat_of_zero_le (show 0 ≤ y by omega)
    have hyn : yn ≠ 0 := by omega
    obtain ⟨hb1, hb2, hb3⟩ := Lib.bitLenAux_bounds 64 yn (by omega) hyn
    have hL : Lib.bitLen yn = Lib.bitLenAux 64 yn := rfl
    rw [← hL] at hb1 hb2 hb3
    generalize hLe : Lib.bitLen yn = L at hb1 hb2 hb3
    have hL64 : L ≤ 64 := by
      by_cases hc : L ≤ 64
      · exact hc
      · have : 2 ^ 64 ≤ 2 ^ (L - 1) := Nat.pow_le_pow_right (by decide) (by omega)
        omega
    have hlz : bits_LeadingZeros64.f (yn : Int) = some ((64 - L : Nat) : Int) := by
      unfold bits_LeadingZeros64.f
      rw [if_pos ⟨by omega, by omega⟩, Int.toNat_natCast, hLe]
      congr 1; omega
    rw [hlz]
    refine ev_let ?_
    generalize hs : 64 - L = s
    have hs64 : s ≤ 63 := by omega
    rw [u64w (x := (s : Int)) (by omega) (by omega), show (64 - (s : Int)) = ((64 - s : Nat) : Int) by omega, u64w (x := ((64 - s : Nat) : Int)) (by omega) (by omega)]
    -- the powers
    have hPR := two_pow_split s (by omega)
    have hP1 : (1 : Int) ≤ 2 ^ s := by have := Nat.two_pow_pos s; exact_mod_cast this
    have hR1 : (1 : Int) ≤ 2 ^ (64 - s) := by have := Nat.two_pow_pos (64 - s); exact_mod_cast this
    have hvlo : (9223372036854775808 : Int) ≤ (yn : Int) * 2 ^ s := by
      have h : 2 ^ 63 ≤ yn * 2 ^ s := by
        calc 2 ^ 63 = 2 ^ (L - 1) * 2 ^ s := by rw [← Nat.pow_add]; congr 1; omega
          _ ≤ yn * 2 ^ s := Nat.mul_le_mul_right _ hb2
      have h' := Int.ofNat_le.2 h
      rw [Int.natCast_mul, Int.natCast_pow, Int.natCast_pow] at h'
      exact h'
    have hvhi : (yn : Int) * 2 ^ s < 18446744073709551616 := by
      have h : yn * 2 ^ s < 2 ^ 64 := by
        calc yn * 2 ^ s < 2 ^ L * 2 ^ s := Nat.mul_lt_mul_of_pos_right hb3 (Nat.two_pow_pos s)
          _ = 2 ^ 64 := by rw [← Nat.pow_add]; congr 1; omega
      have h' := Int.ofNat_lt.2 h
      rw [Int.natCast_mul, Int.natCast_pow, Int.natCast_pow] at h'
      exact h'
    rw [shl_in (s := s) (by omega) (by omega) hvhi]
    have hhiP : hi * 2 ^ s + 2 ^ s ≤ (yn : Int) * 2 ^ s := by
      have := Int.mul_le_mul_of_nonneg_right (show hi + 1 ≤ (yn : Int) by omega) (show (0 : Int) ≤ 2 ^ s by omega)
      rw [Int.add_mul, Int.one_mul] at this
      exact this
    have hhi0 : 0 ≤ hi * 2 ^ s := Int.mul_nonneg h0 (by omega)
    have hmodP : (hi * 2 ^ s) % 2 ^ s = 0 := Int.mul_emod_left _ _
    rw [shl_in (s := s) (x := hi) (by omega) hhi0 (by omega), shr_in (s := 64 - s) (by omega)]
    have hshl : shl .u64 lo (s : Int) = (lo * 2 ^ s) % 18446744073709551616 := by
      unfold shl
      rw [Int.toNat_natCast, Nat.min_eq_left (show s ≤ IntKind.u64.bits by show s ≤ 64; omega), u64m]
    rw [hshl]
    have hdR := Int.mul_ediv_add_emod lo (2 ^ (64 - s))
    have hmR0 := Int.emod_nonneg lo (show ((2 : Int) ^ (64 - s)) ≠ 0 by omega)
    have hmR1 := Int.emod_lt_of_pos lo (show (0 : Int) < 2 ^ (64 - s) by omega)
    have hloR0 : 0 ≤ lo / 2 ^ (64 - s) := Int.ediv_nonneg l0 (by omega)
    have hloR1 : lo / 2 ^ (64 - s) < 2 ^ s := by
      rw [Int.ediv_lt_iff_lt_mul (by omega), hPR]; exact l1
    rw [or_join s (by omega) hhi0 hmodP (by omega) hloR0 hloR1]
    have hloP : lo * 2 ^ s = lo / 2 ^ (64 - s) * 18446744073709551616 + lo % 2 ^ (64 - s) * 2 ^ s := by
      rw [← hPR]
      generalize lo / 2 ^ (64 - s) = g at hdR
      generalize lo % 2 ^ (64 - s) = m at hdR
      rw [← hdR, Int.add_mul, Int.mul_comm (2 ^ (64 - s)) g, Int.mul_assoc g, Int.mul_comm (2 ^ (64 - s)) (2 ^ s)]
    have hmP : lo % 2 ^ (64 - s) * 2 ^ s < 18446744073709551616 := by
      have := Int.mul_lt_mul_of_pos_right hmR1 (show (0 : Int) < 2 ^ s by omega)
      rw [Int.mul_comm (2 ^ (64 - s)) (2 ^ s), hPR] at this
      exact this
    have hmP0 : 0 ≤ lo % 2 ^ (64 - s) * 2 ^ s := Int.mul_nonneg hmR0 (by omega)
    have hun10 : (lo * 2 ^ s) % 18446744073709551616 = lo % 2 ^ (64 - s) * 2 ^ s := by
      rw [hloP]; omega
    rw [hun10]
    have hN : (hi * 18446744073709551616 + lo) * 2 ^ s = (hi * 2 ^ s + lo / 2 ^ (64 - s)) * 18446744073709551616 + lo % 2 ^ (64 - s) * 2 ^ s := by
      rw [Int.add_mul, Int.add_mul, hloP, Int.mul_assoc hi, Int.mul_comm 18446744073709551616 (2 ^ s), ← Int.mul_assoc hi]
      omega
    generalize hu : hi * 2 ^ s + lo / 2 ^ (64 - s) = u at hN
    generalize hw : lo % 2 ^ (64 - s) * 2 ^ s = w at hN hmP hmP0
    generalize hv : (yn : Int) * 2 ^ s = v at hvlo hvhi hhiP
    have hu0 : 0 ≤ u := by omega
    have huv : u < v := by omega
    rw [and_mask32 (by omega) hvhi, and_mask32 hmP0 hmP]
    have hk1 := Kn.first (v := v) (a := v / 4294967296) (b := v % 4294967296) (u := u) (t := w / 4294967296) (by omega) (by omega) (by omega) (by omega) (by omega) (by omega) (by omega) hu0 huv
    refine ev_pos (by omega) (ev_pos (by omega) (ev_neg (by omega) ?_))
    generalize ha : v / 4294967296 = a at hk1
    generalize hb : v % 4294967296 = b at hk1
    generalize ht : w / 4294967296 = t at hk1
    generalize ht0 : w % 4294967296 = un0
    have ha0 := hk1.a0
    have hvab := hk1.hv
    have hqa : u / a * a + (u - u / a * a) = u := by omega
    have he0 := hk1.e0
    have he1 := hk1.e1
    have hqB := hk1.qB
    have hqQ := hk1.qQ
    have hQ0 := hk1.Q0
    have hqa0 : 0 ≤ u / a * a := Int.mul_nonneg (by omega) (by omega)
    rw [tdiv_pos hu0, u64w (x := u / a) (by omega) (by omega), u64w (x := u / a * a) (by omega) (by omega), u64w (x := u - u / a * a) (by omega) (by omega)]
    generalize hQ1 : (u * 4294967296 + t) / v = Q1 at hk1 hqQ hQ0
    refine div_l0 (s : Int) un0 ?_ (u / a).toNat _ _ hk1 (by omega)
    have hlo1 := hk1.lo
    have hhi1 := hk1.hi
    rw [Int.add_mul, Int.one_mul] at hhi1
    refine Ev.step (fun k => by rw [bits_Div64.j2]) (ev_neg (by omega) ?_)
    rw [wrap_left (by omega) (by omega)]
    have hk2 := Kn.first (v := v) (a := a) (b := b) (u := u * 4294967296 + t - Q1 * v) (t := un0) hvab ha0 hk1.a1 hk1.b0 hk1.b1 (by omega) (by omega) (by omega) (by omega)
    generalize hu2 : u * 4294967296 + t - Q1 * v = u2 at hk2
    have hu20 : 0 ≤ u2 := by omega
    have he20 := hk2.e0
    have he21 := hk2.e1
    have hq2B := hk2.qB
    have hq2Q := hk2.qQ
    have hQ20 := hk2.Q0
    have hq2a0 : 0 ≤ u2 / a * a := Int.mul_nonneg (by omega) (by omega)
    have hk2e := hk2.eq
    rw [tdiv_pos hu20, u64w (x := u2 / a) (by omega) (by omega), u64w (x := u2 / a * a) (by omega) (by omega), u64w (x := u2 - u2 / a * a) (by omega) (by omega)]
    generalize hQ2 : (u2 * 4294967296 + un0) / v = Q2 at hk2 hq2Q hQ20
    have hlo2 := hk2.lo
    have hhi2 := hk2.hi
    rw [Int.add_mul, Int.one_mul] at hhi2
    have hQ1B := hk1.QB
    have hQ2B := hk2.QB
    refine div_l1 (s : Int) Q1 (by omega) ?_ (u2 / a).toNat _ _ hk2 (by omega)
    rw [wrap_left (by omega) (by omega), shr_in (by omega), u64w (x := Q1 * 4294967296) (by omega) (by omega), u64w (x := Q1 * 4294967296 + Q2) (by omega) (by omega)]
    -- the whole
    have hall : (hi * 18446744073709551616 + lo) * 2 ^ s = (Q1 * 4294967296 + Q2) * (yn : Int) * 2 ^ s + (u2 * 4294967296 + un0 - Q2 * v) := by
      rw [hN, Int.mul_assoc, hv, Int.add_mul, Int.mul_assoc Q1, Int.mul_comm 4294967296 v, ← Int.mul_assoc Q1]
      omega
    generalize hi * 18446744073709551616 + lo = N at hall
    generalize Q1 * 4294967296 + Q2 = q at hall
    have hrem : u2 * 4294967296 + un0 - Q2 * v = (N - q * (yn : Int)) * 2 ^ s := by rw [Int.sub_mul]; omega
    rw [hrem, Int.mul_ediv_cancel _ (by omega)]
    have hr0 : 0 ≤ N - q * (yn : Int) := by
      by_cases hc : 0 ≤ N - q * (yn : Int)
      · exact hc
      · have := Int.mul_lt_mul_of_pos_right (show N - q * (yn : Int) < 0 by omega) (show (0 : Int) < 2 ^ s by omega)
        rw [Int.zero_mul] at this
        omega
    have hr1 : N - q * (yn : Int) < yn := by
      by_cases hc : N - q * (yn : Int) < yn
      · exact hc
      · have := Int.mul_le_mul_of_nonneg_right (show (yn : Int) ≤ N - q * (yn : Int) by omega) (show (0 : Int) ≤ 2 ^ s by omega)
        omega
    have hdN := Int.mul_ediv_add_emod N (yn : Int)
    have hq : N / (yn : Int) = q := by
      refine Int.le_antisymm ?_ ?_
      · have : N / (yn : Int) < q + 1 := by
          rw [Int.ediv_lt_iff_lt_mul (by omega), Int.add_mul, Int.one_mul]; omega
        omega
      · rw [Int.le_ediv_iff_mul_le (by omega)]; omega
    rw [hq, Int.mul_comm] at hdN
    rw [hq]
    congr 1
    omega
end Go.Proofs.YtheknmeeioajfaaDoor.D
