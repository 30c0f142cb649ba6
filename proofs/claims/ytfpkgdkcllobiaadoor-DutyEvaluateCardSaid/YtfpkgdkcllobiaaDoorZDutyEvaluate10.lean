/- Part 10 of the proof of the law DutyEvaluate (its walk through the code, and the plain laws over numbers and texts). Conditions: none. -/
import Derived.Test.YtfpkgdkcllobiaaDoorZDutyEvaluate9
import Derived.Laws.Bits64
import Derived.IntWalk
import Derived.Lib.ItoaNum
section
namespace Go.Proofs.YtfpkgdkcllobiaaDoor.D
set_option linter.unusedVariables false
set_option linter.unusedSimpArgs false
open Go.RowKit Go.Proofs.YtfpkgdkcllobiaaDoorW.PrintWords Go.Proofs.YtfpkgdkcllobiaaDoorW.PrintMore
theorem u64w {x : Int} (h0 : 0 ≤ x) (h1 : x < 18446744073709551616) : IntKind.u64.wrap x = x := IntWalk.u64_in x ⟨h0, by omega⟩
theorem wraps_u64 (n : Int) (h0 : 0 ≤ n) (h1 : n < 2 ^ 64) : IntKind.u64.wrap n = n := u64w h0 (by simpa using h1)
theorem wraps_i64 (n : Int) (h0 : 0 ≤ n) (h1 : n < 2 ^ 63) : IntKind.i64.wrap n = n := IntWalk.i64_in n ⟨by omega, by omega⟩
theorem and_mask32 {x : Int} (h0 : 0 ≤ x) (h1 : x < 18446744073709551616) : bits .and .u64 x 4294967295 = x % 4294967296 := by
  have := bits_mask .u64 64 (by decide) wraps_u64 32 (by decide) x h0 (by simpa using h1)
  simpa using this
theorem and_one {x : Int} (h0 : 0 ≤ x) (h1 : x < 18446744073709551616) : bits .and .u64 x 1 = x % 2 := by
  have := bits_mask .u64 64 (by decide) wraps_u64 1 (by decide) x h0 (by simpa using h1)
  simpa using this
theorem and_63 {x : Int} (h0 : 0 ≤ x) (h1 : x < 9223372036854775808) : bits .and .i64 x 63 = x % 64 := by
  have := bits_mask .i64 63 (by decide) wraps_i64 6 (by decide) x h0 (by simpa using h1)
  simpa using this
theorem or_join {x y : Int} (s : Nat) (hs : s ≤ 64) (hx0 : 0 ≤ x) (hx : x % 2 ^ s = 0) (hx1 : x < 18446744073709551616) (hy0 : 0 ≤ y) (hy : y < 2 ^ s) : bits .or .u64 x y = x + y := by
  have h64 : (2 : Int) ^ s ≤ 2 ^ 64 := by
    have := Nat.pow_le_pow_right (show 0 < 2 by decide) hs
    exact_mod_cast this
  exact bits_join .u64 64 (by decide) wraps_u64 s x y hx0 hx (by simpa using hx1) hy0 hy (by omega)
theorem or_one {x : Int} (h0 : 0 ≤ x) (h1 : x < 18446744073709551616) (he : x % 2 = 0) : bits .or .u64 x 1 = x + 1 := or_join 1 (by decide) h0 (by simpa using he) h1 (by decide) (by decide)
theorem shl_in {x : Int} {s : Nat} (hs : s ≤ 64) (h0 : 0 ≤ x * 2 ^ s) (h1 : x * 2 ^ s < 18446744073709551616) : shl .u64 x (s : Int) = x * 2 ^ s := by
  unfold shl
  rw [Int.toNat_natCast, Nat.min_eq_left (show s ≤ IntKind.u64.bits by exact hs), u64w h0 h1]
theorem shr_in {x : Int} {s : Nat} (hs : s ≤ 64) : shr .u64 x (s : Int) = x / 2 ^ s := by
  unfold shr
  rw [Int.toNat_natCast, Nat.min_eq_left (show s ≤ IntKind.u64.bits by exact hs)]
structure Kn (v a b u t q e Q : Int) : Prop where
  hv : v = a * 4294967296 + b
  a0 : 2147483648 ≤ a
  a1 : a < 4294967296
  b0 : 0 ≤ b
  b1 : b < 4294967296
  t0 : 0 ≤ t
  t1 : t < 4294967296
  uv : u < v
  eq : q * a + e = u
  e0 : 0 ≤ e
  e1 : e < 4294967296
  lo : Q * v ≤ u * 4294967296 + t
  hi : u * 4294967296 + t < (Q + 1) * v
  Q0 : 0 ≤ Q
  qQ : Q ≤ q
  qB : q ≤ 4294967297
theorem Kn.v0 {v a b u t q e Q : Int} (h : Kn v a b u t q e Q) : 0 < v := by have := h.hv; have := h.a0; have := h.b0; omega
theorem Kn.mul {v a b u t q e Q : Int} (h : Kn v a b u t q e Q) : q * v = q * a * 4294967296 + q * b := by rw [h.hv, Int.mul_add, ← Int.mul_assoc]
theorem Kn.QB {v a b u t q e Q : Int} (h : Kn v a b u t q e Q) : Q < 4294967296 := by
  have hv := h.v0
  have h1 := h.lo
  have h2 := h.uv
  have h3 := h.t1
  by_cases hc : Q < 4294967296
  · exact hc
  · have := Int.mul_le_mul_of_nonneg_right (show (4294967296 : Int) ≤ Q by omega) (Int.le_of_lt hv)
    omega
theorem Kn.le_iff {v a b u t q e Q : Int} (h : Kn v a b u t q e Q) (p : Int) : p ≤ Q ↔ p * v ≤ u * 4294967296 + t := by
  have hv := h.v0
  constructor
  · intro hp
    exact Int.le_trans (Int.mul_le_mul_of_nonneg_right hp (Int.le_of_lt hv)) h.lo
  · intro hp
    by_cases hc : p ≤ Q
    · exact hc
    · have := Int.mul_le_mul_of_nonneg_right (show Q + 1 ≤ p by omega) (Int.le_of_lt hv)
      have := h.hi
      omega
theorem Kn.test {v a b u t q e Q : Int} (h : Kn v a b u t q e Q) : (q * b > 4294967296 * e + t) ↔ Q < q := by
  have h1 := h.le_iff q
  have h2 := h.mul
  have h3 := h.eq
  have h4 := h.qQ
  rw [h2] at h1
  generalize q * a = p at h1 h3
  generalize q * b = r at h1
  constructor
  · intro hc
    have : ¬ q ≤ Q := fun hq => by have := h1.1 hq; omega
    omega
  · intro hc
    have : ¬ (p * 4294967296 + r ≤ u * 4294967296 + t) := fun hq => by have := h1.2 hq; omega
    omega
theorem Kn.last {v a b u t q e Q : Int} (h : Kn v a b u t q e Q) (hq : Q < q) (he : 4294967296 ≤ e + a) : q - 1 = Q := by
  have h1 := h.le_iff (q - 1)
  have h3 := h.eq
  have hb := h.b1
  have hb0 := h.b0
  have ht := h.t0
  have hqB := h.qB
  have hQ := h.Q0
  have e1 : (q - 1) * v = (q * a - a) * 4294967296 + (q - 1) * b := by rw [h.hv, Int.mul_add, ← Int.mul_assoc, Int.sub_mul, Int.one_mul]
  have e2 : (q - 1) * b ≤ 4294967296 * b := Int.mul_le_mul_of_nonneg_right (by omega) hb0
  rw [e1] at h1
  generalize q * a = p at h1 h3
  generalize (q - 1) * b = r at h1 e2
  have := h1.2 (by omega)
  omega
theorem Kn.next {v a b u t q e Q : Int} (h : Kn v a b u t q e Q) (hq : Q < q) (he : e + a < 4294967296) : Kn v a b u t (q - 1) (e + a) Q where
  hv := h.hv
  a0 := h.a0
  a1 := h.a1
  b0 := h.b0
  b1 := h.b1
  t0 := h.t0
  t1 := h.t1
  uv := h.uv
  eq := by have := h.eq; rw [Int.sub_mul, Int.one_mul]; omega
  e0 := by have := h.e0; have := h.a0; omega
  e1 := he
  lo := h.lo
  hi := h.hi
  Q0 := h.Q0
  qQ := by omega
  qB := by have := h.qB; omega
theorem Kn.first {v a b u t : Int} (hv : v = a * 4294967296 + b) (a0 : 2147483648 ≤ a) (a1 : a < 4294967296) (b0 : 0 ≤ b) (b1 : b < 4294967296) (t0 : 0 ≤ t) (t1 : t < 4294967296) (u0 : 0 ≤ u) (uv : u < v) :
    Kn v a b u t (u / a) (u - u / a * a) ((u * 4294967296 + t) / v) := by
  have hv0 : 0 < v := by omega
  have ha : 0 < a := by omega
  have hd := Int.mul_ediv_add_emod u a
  have hm := Int.emod_nonneg u (show a ≠ 0 by omega)
  have hm1 := Int.emod_lt_of_pos u ha
  have hc : u / a * a = a * (u / a) := Int.mul_comm _ _
  have hD := Int.mul_ediv_add_emod (u * 4294967296 + t) v
  have hM := Int.emod_nonneg (u * 4294967296 + t) (show v ≠ 0 by omega)
  have hM1 := Int.emod_lt_of_pos (u * 4294967296 + t) hv0
  have hC : (u * 4294967296 + t) / v * v = v * ((u * 4294967296 + t) / v) := Int.mul_comm _ _
  have hlo : (u * 4294967296 + t) / v * v ≤ u * 4294967296 + t := by omega
  refine ⟨hv, a0, a1, b0, b1, t0, t1, uv, by omega, by omega, by omega, hlo, by rw [Int.add_mul, Int.one_mul]; omega, Int.ediv_nonneg (by omega) (by omega), ?_, ?_⟩
  · generalize hQ : (u * 4294967296 + t) / v = Q at hlo
    rw [Int.le_ediv_iff_mul_le ha]
    have hQ0 : 0 ≤ Q := by rw [← hQ]; exact Int.ediv_nonneg (by omega) (by omega)
    have e1 : Q * v = Q * a * 4294967296 + Q * b := by rw [hv, Int.mul_add, ← Int.mul_assoc]
    have e2 : 0 ≤ Q * b := Int.mul_nonneg hQ0 b0
    omega
  · have : u / a < 4294967298 := by
      rw [Int.ediv_lt_iff_lt_mul ha]
      omega
    omega
end Go.Proofs.YtfpkgdkcllobiaaDoor.D
namespace Go.Proofs.YtfpkgdkcllobiaaDoor.D
set_option linter.unusedVariables false
set_option linter.unusedSimpArgs false
open Go.RowKit Go.Proofs.YtfpkgdkcllobiaaDoor.F Go.Proofs.YtfpkgdkcllobiaaDoorW.PrintWords Go.Proofs.YtfpkgdkcllobiaaDoorW.PrintMore
theorem u64m {x : Int} : IntKind.u64.wrap x = x % 18446744073709551616 := IntKind.wrap_u64 x
theorem mul_lt {a b : Int} (a0 : 0 ≤ a) (a1 : a < 4294967296) (b0 : 0 ≤ b) (b1 : b < 4294967296) : 0 ≤ a * b ∧ a * b < 18446744073709551616 := by
  constructor
  · exact Int.mul_nonneg a0 b0
  · have h1 : a * b ≤ 4294967295 * b := Int.mul_le_mul_of_nonneg_right (by omega) b0
    omega
theorem div_l0 {v a b u t Q : Int} (s un0 : Int) {r : Int × Int} (hr : Ev (fun k => bits_Div64.j2 k v s a b u t un0 Q) r) (d : Nat) : ∀ q e : Int, Kn v a b u t q e Q → q - Q ≤ d → Ev (fun k => bits_Div64.l0 k v s a b u t un0 q e) r := by
  induction d with
  | zero =>
    intro q e h hd
    have hq : q = Q := by have := h.qQ; omega
    have hB := h.QB
    have hQ0 := h.Q0
    have hm := mul_lt h.Q0 hB h.b0 h.b1
    have he0 := h.e0
    have he1 := h.e1
    have ht0 := h.t0
    have ht1 := h.t1
    have ht := h.test
    subst hq
    refine Ev.step (fun k => by rw [bits_Div64.l0]) (ev_neg (by omega) ?_)
    rw [u64w hm.1 hm.2, u64w (x := 4294967296 * e) (by omega) (by omega), u64w (x := 4294967296 * e + t) (by omega) (by omega), decide_eq_false (fun hc => by have := ht.1 hc; omega)]
    exact Ev.step (fun k => by rw [bits_Div64.j1]) (ev_neg (by decide) hr)
  | succ d ih =>
    intro q e h hd
    have hB := h.QB
    have hQ0 := h.Q0
    have he0 := h.e0
    have he1 := h.e1
    have ht0 := h.t0
    have ht1 := h.t1
    have ha0 := h.a0
    have ha1 := h.a1
    have hqQ := h.qQ
    have hqB := h.qB
    have dec : Q < q → Ev (fun k => bits_Div64.j1 k v s a b u t un0 q e true) r := fun hq => by
      refine Ev.step (fun k => by rw [bits_Div64.j1]) (ev_pos rfl ?_)
      rw [u64w (x := e + a) (by omega) (by omega), u64w (x := q - 1) (by omega) (by omega)]
      refine ev_ite (fun hc => ?_) (fun hc => ?_)
      · rw [h.last hq hc]; exact hr
      · exact ih _ _ (h.next hq (by omega)) (by omega)
    refine Ev.step (fun k => by rw [bits_Div64.l0]) ?_
    refine ev_ite (fun hc => dec (by omega)) (fun hc => ?_)
    have hm := mul_lt (show 0 ≤ q by omega) (show q < 4294967296 by omega) h.b0 h.b1
    rw [u64w hm.1 hm.2, u64w (x := 4294967296 * e) (by omega) (by omega), u64w (x := 4294967296 * e + t) (by omega) (by omega)]
    by_cases hq : Q < q
    · rw [decide_eq_true (h.test.2 hq)]
      exact dec hq
    · rw [decide_eq_false (fun hc => hq (h.test.1 hc))]
      have : q = Q := by omega
      subst this
      exact Ev.step (fun k => by rw [bits_Div64.j1]) (ev_neg (by decide) hr)
theorem div_l1 {v a b u t Q : Int} (s q1 : Int) (hs : 0 ≤ s) {r : Int × Int} (hr : (IntKind.u64.wrap ((IntKind.u64.wrap (q1 * 4294967296)) + Q), shr .u64 (IntKind.u64.wrap ((IntKind.u64.wrap ((IntKind.u64.wrap (u * 4294967296)) + t)) - (IntKind.u64.wrap (Q * v)))) s) = r) (d : Nat) :
    ∀ q e : Int, Kn v a b u t q e Q → q - Q ≤ d → Ev (fun k => bits_Div64.l1 k v s a b t q1 e u q) r := by
  induction d with
  | zero =>
    intro q e h hd
    have hq : q = Q := by have := h.qQ; omega
    have hB := h.QB
    have hQ0 := h.Q0
    have hm := mul_lt h.Q0 hB h.b0 h.b1
    have he0 := h.e0
    have he1 := h.e1
    have ht0 := h.t0
    have ht1 := h.t1
    have ht := h.test
    subst hq
    refine Ev.step (fun k => by rw [bits_Div64.l1]) (ev_neg (by omega) ?_)
    rw [u64w hm.1 hm.2, u64w (x := 4294967296 * e) (by omega) (by omega), u64w (x := 4294967296 * e + t) (by omega) (by omega), decide_eq_false (fun hc => by have := ht.1 hc; omega)]
    exact Ev.step (fun k => by rw [bits_Div64.j4]) (ev_neg (by decide) (ev_pos hs (ev_eq (Ev.now _) hr)))
  | succ d ih =>
    intro q e h hd
    have hB := h.QB
    have hQ0 := h.Q0
    have he0 := h.e0
    have he1 := h.e1
    have ht0 := h.t0
    have ht1 := h.t1
    have ha0 := h.a0
    have ha1 := h.a1
    have hqQ := h.qQ
    have hqB := h.qB
    have dec : Q < q → Ev (fun k => bits_Div64.j4 k v s a b t q1 e u q true) r := fun hq => by
      refine Ev.step (fun k => by rw [bits_Div64.j4]) (ev_pos rfl ?_)
      rw [u64w (x := e + a) (by omega) (by omega), u64w (x := q - 1) (by omega) (by omega)]
      refine ev_ite (fun hc => ?_) (fun hc => ?_)
      · rw [h.last hq hc]; exact ev_pos hs (ev_eq (Ev.now _) hr)
      · exact ih _ _ (h.next hq (by omega)) (by omega)
    refine Ev.step (fun k => by rw [bits_Div64.l1]) ?_
    refine ev_ite (fun hc => dec (by omega)) (fun hc => ?_)
    have hm := mul_lt (show 0 ≤ q by omega) (show q < 4294967296 by omega) h.b0 h.b1
    rw [u64w hm.1 hm.2, u64w (x := 4294967296 * e) (by omega) (by omega), u64w (x := 4294967296 * e + t) (by omega) (by omega)]
    by_cases hq : Q < q
    · rw [decide_eq_true (h.test.2 hq)]
      exact dec hq
    · rw [decide_eq_false (fun hc => hq (h.test.1 hc))]
      have : q = Q := by omega
      subst this
      exact Ev.step (fun k => by rw [bits_Div64.j4]) (ev_neg (by decide) (ev_pos hs (ev_eq (Ev.now _) hr)))
theorem wrap_left {u t Q v : Int} (h0 : 0 ≤ u * 4294967296 + t - Q * v) (h1 : u * 4294967296 + t - Q * v < 18446744073709551616) :
    IntKind.u64.wrap ((IntKind.u64.wrap ((IntKind.u64.wrap (u * 4294967296)) + t)) - (IntKind.u64.wrap (Q * v))) = u * 4294967296 + t - Q * v := by
  rw [u64m, u64m, u64m, u64m]
  generalize Q * v = p at h0 h1 ⊢
  omega
theorem two_pow_split (s : Nat) (hs : s ≤ 64) : (2 : Int) ^ s * 2 ^ (64 - s) = 18446744073709551616 := by
  rw [← Int.pow_add, show s + (64 - s) = 64 by omega]; decide
theorem div64_ev (hi lo y : Int) (h0 : 0 ≤ hi) (h1 : hi < y) (h2 : y < 18446744073709551616) (l0 : 0 ≤ lo) (l1 : lo < 18446744073709551616) :
    Ev (fun k => bits_Div64.f k hi lo y) ((hi * 18446744073709551616 + lo) / y, (hi * 18446744073709551616 + lo) % y) := by
  unfold bits_Div64.f
  refine ev_neg (by omega) (ev_neg (by omega) (ev_ite (fun hz => ?_) (fun hz => ?_)))
  · subst hz
    have hq : lo / y ≤ lo := Int.ediv_le_self y l0
    have hq0 : 0 ≤ lo / y := Int.ediv_nonneg l0 (by omega)
    rw [tdiv_pos l0, tmod_pos l0, u64w (by omega) (by omega), Int.zero_mul, Int.zero_add]
    exact Ev.now _
  · obtain ⟨yn, rfl⟩ := Int.eq_ofNat_of_zero_le (show 0 ≤ y by omega)
    have hyn : yn ≠ 0 := by omega
    obtain ⟨hb1, hb2, hb3⟩ := Lib.bitLenAux_bounds 64 yn (by omega) hyn
    have hL : Lib.bitLen yn = Lib.bitLenAux 64 yn := rfl
    rw [← hL] at hb1 hb2 hb3
    generalize hLe : Lib.bitLen yn = L at hb1 hb2 hb3
    have hL64 : L ≤ 64 := by
      by_cases hc : L ≤ 64
      · exact hc
      · have : 2 ^ 64 ≤ 2 ^ (L - 1) := Nat.pow_le_pow_right (by decide) (by omega)
        omega
    have hlz : bits_LeadingZeros64.f (yn : Int) = some ((64 - L : Nat) : Int) := by
      unfold bits_LeadingZeros64.f
      rw [if_pos ⟨by omega, by omega⟩, Int.toNat_natCast, hLe]
      congr 1; omega
    rw [hlz]
    refine ev_let ?_
    generalize hs : 64 - L = s
    have hs64 : s ≤ 63 := by omega
    rw [u64w (x := (s : Int)) (by omega) (by omega), show (64 - (s : Int)) = ((64 - s : Nat) : Int) by omega, u64w (x := ((64 - s : Nat) : Int)) (by omega) (by omega)]
    
    have hPR := two_pow_split s (by omega)
    have hP1 : (1 : Int) ≤ 2 ^ s := by have := Nat.two_pow_pos s; exact_mod_cast this
    have hR1 : (1 : Int) ≤ 2 ^ (64 - s) := by have := Nat.two_pow_pos (64 - s); exact_mod_cast this
    have hvlo : (9223372036854775808 : Int) ≤ (yn : Int) * 2 ^ s := by
      have h : 2 ^ 63 ≤ yn * 2 ^ s := by
        calc 2 ^ 63 = 2 ^ (L - 1) * 2 ^ s := by rw [← Nat.pow_add]; congr 1; omega
          _ ≤ yn * 2 ^ s := Nat.mul_le_mul_right _ hb2
      have h' := Int.ofNat_le.2 h
      rw [Int.natCast_mul, Int.natCast_pow, Int.natCast_pow] at h'
      exact h'
    have hvhi : (yn : Int) * 2 ^ s < 18446744073709551616 := by
      have h : yn * 2 ^ s < 2 ^ 64 := by
        calc yn * 2 ^ s < 2 ^ L * 2 ^ s := Nat.mul_lt_mul_of_pos_right hb3 (Nat.two_pow_pos s)
          _ = 2 ^ 64 := by rw [← Nat.pow_add]; congr 1; omega
      have h' := Int.ofNat_lt.2 h
      rw [Int.natCast_mul, Int.natCast_pow, Int.natCast_pow] at h'
      exact h'
    rw [shl_in (s := s) (by omega) (by omega) hvhi]
    have hhiP : hi * 2 ^ s + 2 ^ s ≤ (yn : Int) * 2 ^ s := by
      have := Int.mul_le_mul_of_nonneg_right (show hi + 1 ≤ (yn : Int) by omega) (show (0 : Int) ≤ 2 ^ s by omega)
      rw [Int.add_mul, Int.one_mul] at this
      exact this
    have hhi0 : 0 ≤ hi * 2 ^ s := Int.mul_nonneg h0 (by omega)
    have hmodP : (hi * 2 ^ s) % 2 ^ s = 0 := Int.mul_emod_left _ _
    rw [shl_in (s := s) (x := hi) (by omega) hhi0 (by omega), shr_in (s := 64 - s) (by omega)]
    have hshl : shl .u64 lo (s : Int) = (lo * 2 ^ s) % 18446744073709551616 := by
      unfold shl
      rw [Int.toNat_natCast, Nat.min_eq_left (show s ≤ IntKind.u64.bits by show s ≤ 64; omega), u64m]
    rw [hshl]
    have hdR := Int.mul_ediv_add_emod lo (2 ^ (64 - s))
    have hmR0 := Int.emod_nonneg lo (show ((2 : Int) ^ (64 - s)) ≠ 0 by omega)
    have hmR1 := Int.emod_lt_of_pos lo (show (0 : Int) < 2 ^ (64 - s) by omega)
    have hloR0 : 0 ≤ lo / 2 ^ (64 - s) := Int.ediv_nonneg l0 (by omega)
    have hloR1 : lo / 2 ^ (64 - s) < 2 ^ s := by
      rw [Int.ediv_lt_iff_lt_mul (by omega), hPR]; exact l1
    rw [or_join s (by omega) hhi0 hmodP (by omega) hloR0 hloR1]
    have hloP : lo * 2 ^ s = lo / 2 ^ (64 - s) * 18446744073709551616 + lo % 2 ^ (64 - s) * 2 ^ s := by
      rw [← hPR]
      generalize lo / 2 ^ (64 - s) = g at hdR
      generalize lo % 2 ^ (64 - s) = m at hdR
      rw [← hdR, Int.add_mul, Int.mul_comm (2 ^ (64 - s)) g, Int.mul_assoc g, Int.mul_comm (2 ^ (64 - s)) (2 ^ s)]
    have hmP : lo % 2 ^ (64 - s) * 2 ^ s < 18446744073709551616 := by
      have := Int.mul_lt_mul_of_pos_right hmR1 (show (0 : Int) < 2 ^ s by omega)
      rw [Int.mul_comm (2 ^ (64 - s)) (2 ^ s), hPR] at this
      exact this
    have hmP0 : 0 ≤ lo % 2 ^ (64 - s) * 2 ^ s := Int.mul_nonneg hmR0 (by omega)
    have hun10 : (lo * 2 ^ s) % 18446744073709551616 = lo % 2 ^ (64 - s) * 2 ^ s := by
      rw [hloP]; omega
    rw [hun10]
    have hN : (hi * 18446744073709551616 + lo) * 2 ^ s = (hi * 2 ^ s + lo / 2 ^ (64 - s)) * 18446744073709551616 + lo % 2 ^ (64 - s) * 2 ^ s := by
      rw [Int.add_mul, Int.add_mul, hloP, Int.mul_assoc hi, Int.mul_comm 18446744073709551616 (2 ^ s), ← Int.mul_assoc hi]
      omega
    generalize hu : hi * 2 ^ s + lo / 2 ^ (64 - s) = u at hN
    generalize hw : lo % 2 ^ (64 - s) * 2 ^ s = w at hN hmP hmP0
    generalize hv : (yn : Int) * 2 ^ s = v at hvlo hvhi hhiP
    have hu0 : 0 ≤ u := by omega
    have huv : u < v := by omega
    rw [and_mask32 (by omega) hvhi, and_mask32 hmP0 hmP]
    have hk1 := Kn.first (v := v) (a := v / 4294967296) (b := v % 4294967296) (u := u) (t := w / 4294967296) (by omega) (by omega) (by omega) (by omega) (by omega) (by omega) (by omega) hu0 huv
    refine ev_pos (by omega) (ev_pos (by omega) (ev_neg (by omega) ?_))
    generalize ha : v / 4294967296 = a at hk1
    generalize hb : v % 4294967296 = b at hk1
    generalize ht : w / 4294967296 = t at hk1
    generalize ht0 : w % 4294967296 = un0
    have ha0 := hk1.a0
    have hvab := hk1.hv
    have hqa : u / a * a + (u - u / a * a) = u := by omega
    have he0 := hk1.e0
    have he1 := hk1.e1
    have hqB := hk1.qB
    have hqQ := hk1.qQ
    have hQ0 := hk1.Q0
    have hqa0 : 0 ≤ u / a * a := Int.mul_nonneg (by omega) (by omega)
    rw [tdiv_pos hu0, u64w (x := u / a) (by omega) (by omega), u64w (x := u / a * a) (by omega) (by omega), u64w (x := u - u / a * a) (by omega) (by omega)]
    generalize hQ1 : (u * 4294967296 + t) / v = Q1 at hk1 hqQ hQ0
    refine div_l0 (s : Int) un0 ?_ (u / a).toNat _ _ hk1 (by omega)
    have hlo1 := hk1.lo
    have hhi1 := hk1.hi
    rw [Int.add_mul, Int.one_mul] at hhi1
    refine Ev.step (fun k => by rw [bits_Div64.j2]) (ev_neg (by omega) ?_)
    rw [wrap_left (by omega) (by omega)]
    have hk2 := Kn.first (v := v) (a := a) (b := b) (u := u * 4294967296 + t - Q1 * v) (t := un0) hvab ha0 hk1.a1 hk1.b0 hk1.b1 (by omega) (by omega) (by omega) (by omega)
    generalize hu2 : u * 4294967296 + t - Q1 * v = u2 at hk2
    have hu20 : 0 ≤ u2 := by omega
    have he20 := hk2.e0
    have he21 := hk2.e1
    have hq2B := hk2.qB
    have hq2Q := hk2.qQ
    have hQ20 := hk2.Q0
    have hq2a0 : 0 ≤ u2 / a * a := Int.mul_nonneg (by omega) (by omega)
    have hk2e := hk2.eq
    rw [tdiv_pos hu20, u64w (x := u2 / a) (by omega) (by omega), u64w (x := u2 / a * a) (by omega) (by omega), u64w (x := u2 - u2 / a * a) (by omega) (by omega)]
    generalize hQ2 : (u2 * 4294967296 + un0) / v = Q2 at hk2 hq2Q hQ20
    have hlo2 := hk2.lo
    have hhi2 := hk2.hi
    rw [Int.add_mul, Int.one_mul] at hhi2
    have hQ1B := hk1.QB
    have hQ2B := hk2.QB
    refine div_l1 (s : Int) Q1 (by omega) ?_ (u2 / a).toNat _ _ hk2 (by omega)
    rw [wrap_left (by omega) (by omega), shr_in (by omega), u64w (x := Q1 * 4294967296) (by omega) (by omega), u64w (x := Q1 * 4294967296 + Q2) (by omega) (by omega)]
    
    have hall : (hi * 18446744073709551616 + lo) * 2 ^ s = (Q1 * 4294967296 + Q2) * (yn : Int) * 2 ^ s + (u2 * 4294967296 + un0 - Q2 * v) := by
      rw [hN, Int.mul_assoc, hv, Int.add_mul, Int.mul_assoc Q1, Int.mul_comm 4294967296 v, ← Int.mul_assoc Q1]
      omega
    generalize hi * 18446744073709551616 + lo = N at hall
    generalize Q1 * 4294967296 + Q2 = q at hall
    have hrem : u2 * 4294967296 + un0 - Q2 * v = (N - q * (yn : Int)) * 2 ^ s := by rw [Int.sub_mul]; omega
    rw [hrem, Int.mul_ediv_cancel _ (by omega)]
    have hr0 : 0 ≤ N - q * (yn : Int) := by
      by_cases hc : 0 ≤ N - q * (yn : Int)
      · exact hc
      · have := Int.mul_lt_mul_of_pos_right (show N - q * (yn : Int) < 0 by omega) (show (0 : Int) < 2 ^ s by omega)
        rw [Int.zero_mul] at this
        omega
    have hr1 : N - q * (yn : Int) < yn := by
      by_cases hc : N - q * (yn : Int) < yn
      · exact hc
      · have := Int.mul_le_mul_of_nonneg_right (show (yn : Int) ≤ N - q * (yn : Int) by omega) (show (0 : Int) ≤ 2 ^ s by omega)
        omega
    have hdN := Int.mul_ediv_add_emod N (yn : Int)
    have hq : N / (yn : Int) = q := by
      refine Int.le_antisymm ?_ ?_
      · have : N / (yn : Int) < q + 1 := by
          rw [Int.ediv_lt_iff_lt_mul (by omega), Int.add_mul, Int.one_mul]; omega
        omega
      · rw [Int.le_ediv_iff_mul_le (by omega)]; omega
    rw [hq, Int.mul_comm] at hdN
    rw [hq]
    congr 1
    omega
end Go.Proofs.YtfpkgdkcllobiaaDoor.D
end
section
namespace Go.Proofs.YtfpkgdkcllobiaaDoor.D
set_option linter.unusedVariables false
set_option linter.unusedSimpArgs false
open Go.RowKit Go.Proofs.YtfpkgdkcllobiaaDoor.F Go.Proofs.YtfpkgdkcllobiaaDoorW.PrintWords Go.Proofs.YtfpkgdkcllobiaaDoorW.PrintMore
def up (m q r c : Int) : Bool := if m = 1 then decide (r > 0) else if m = 2 then decide (r ≥ c - r) else if m = 3 then (if r > c - r then true else if r = c - r then decide (q % 2 = 1) else false) else false
def rnd (m N c : Int) : Int := N / c + if up m (N / c) (N % c) c = true then 1 else 0
def divS (m N c : Int) : Int × Int := if c = 0 ∨ m < 0 ∨ m > 3 then (0, 2) else if rnd m N c ≥ 18446744073709551616 then (0, 3) else (rnd m N c, 0)
theorem above_eq {q r c m : Int} (q0 : 0 ≤ q) (r0 : 0 ≤ r) (r1 : r < c) (c1 : c < 18446744073709551616) : exact_above.f q r c m = some (up m q r c) := by
  have key : ∀ t : Int, (t ≥ 0 ↔ r ≥ c - r) → (t > 0 ↔ r > c - r) →
      (if m = 1 then (some (decide (r > 0))) else (if m = 2 then (some (decide (t ≥ 0))) else (if m = 3 then (if t > 0 then (some true) else (if t = 0 then (some ((q % 2) == 1)) else (some false))) else (some false)))) = some (up m q r c) := by
    intro t h1 h2
    unfold up
    by_cases m1 : m = 1
    · rw [if_pos m1, if_pos m1]
    · rw [if_neg m1, if_neg m1]
      by_cases m2 : m = 2
      · rw [if_pos m2, if_pos m2]
        congr 1
        exact decide_eq_decide.2 h1
      · rw [if_neg m2, if_neg m2]
        by_cases m3 : m = 3
        · rw [if_pos m3, if_pos m3]
          by_cases g : r > c - r
          · rw [if_pos g, if_pos (h2.2 g)]
          · rw [if_neg g, if_neg (fun h => g (h2.1 h))]
            by_cases g2 : r = c - r
            · rw [if_pos g2, if_pos (by omega)]
              congr 1
            · rw [if_neg g2, if_neg (by omega)]
        · rw [if_neg m3, if_neg m3]
  unfold exact_above.f exact_order.f
  rw [u64w (by omega) (by omega), tmod_pos q0]
  by_cases h1 : r < c - r
  · rw [if_pos h1]
    exact key (-1) (by omega) (by omega)
  · rw [if_neg h1]
    by_cases h2 : r > c - r
    · rw [if_pos h2]
      exact key 1 (by omega) (by omega)
    · rw [if_neg h2]
      exact key 0 (by omega) (by omega)
theorem rnd_ge {m N c : Int} : N / c ≤ rnd m N c ∧ rnd m N c ≤ N / c + 1 := by
  unfold rnd
  split <;> omega
theorem exactDiv_ev (hi lo c m : Int) (h0 : 0 ≤ hi) (h1 : hi < 18446744073709551616) (l0 : 0 ≤ lo) (l1 : lo < 18446744073709551616) (c0 : 0 ≤ c) (c1 : c < 18446744073709551616) :
    Ev (fun k => exact_Div.f k hi lo c m) (divS m (hi * 18446744073709551616 + lo) c) := by
  unfold exact_Div.f
  have bad : c = 0 ∨ m < 0 ∨ m > 3 → Ev (fun k => exact_Div.j0 k c m true hi lo) (divS m (hi * 18446744073709551616 + lo) c) := fun h => by
    unfold divS
    rw [if_pos h]
    exact Ev.step (fun k => by rw [exact_Div.j0]) (ev_pos rfl (Ev.now _))
  refine ev_ite (fun h => bad (Or.inl h)) (fun hc => ev_ite (fun h => bad (Or.inr (Or.inl h))) (fun hm => ?_))
  by_cases h3 : m > 3
  · rw [decide_eq_true h3]; exact bad (Or.inr (Or.inr h3))
  · rw [decide_eq_false h3]
    unfold divS
    rw [if_neg (by omega)]
    generalize hN : hi * 18446744073709551616 + lo = N
    have hr := @rnd_ge m N c
    refine Ev.step (fun k => by rw [exact_Div.j0]) (ev_neg (by decide) (ev_ite (fun hh => ?_) (fun hh => ?_)))
    · rw [if_pos ?_]
      · exact Ev.now _
      · have : 18446744073709551616 ≤ N / c := by
          rw [Int.le_ediv_iff_mul_le (by omega)]
          have := Int.mul_le_mul_of_nonneg_left hh (show (0 : Int) ≤ 18446744073709551616 by omega)
          omega
        omega
    · have hd := div64_ev hi lo c h0 (by omega) c1 l0 l1
      rw [hN] at hd
      refine ev_bind hd ?_
      have hq0 : 0 ≤ N / c := Int.ediv_nonneg (by omega) (by omega)
      have hq1 : N / c < 18446744073709551616 := by
        rw [Int.ediv_lt_iff_lt_mul (by omega)]
        have := Int.mul_le_mul_of_nonneg_left (show hi + 1 ≤ c by omega) (show (0 : Int) ≤ 18446744073709551616 by omega)
        omega
      have hm0 := Int.emod_nonneg N (show c ≠ 0 by omega)
      have hm1 := Int.emod_lt_of_pos N (show 0 < c by omega)
      show Ev (fun k => (exact_above.f (N / c) (N % c) c m).bind _) _
      rw [above_eq hq0 hm0 hm1 c1]
      refine ev_let ?_
      show Ev (fun k => if up m (N / c) (N % c) c = true then (if IntKind.u64.wrap (N / c + 1) = 0 then some (0, 3) else some (IntKind.u64.wrap (N / c + 1), 0)) else some (N / c, 0)) _
      unfold rnd
      refine ev_ite (fun hu => ?_) (fun hu => ?_)
      · rw [if_pos hu]
        by_cases hw : N / c + 1 = 18446744073709551616
        · have e : (if N / c + 1 ≥ 18446744073709551616 then ((0 : Int), (3 : Int)) else (N / c + 1, 0)) = (0, 3) := if_pos (by omega)
          rw [e]
          exact ev_pos (by rw [hw, u64m]; rfl) (Ev.now _)
        · have e : (if N / c + 1 ≥ 18446744073709551616 then ((0 : Int), (3 : Int)) else (N / c + 1, 0)) = (N / c + 1, 0) := if_neg (by omega)
          rw [e, u64w (by omega) (by omega)]
          exact ev_neg (by omega) (Ev.now _)
      · rw [if_neg hu, Int.add_zero, if_neg (by omega)]
        exact Ev.now _
end Go.Proofs.YtfpkgdkcllobiaaDoor.D
end
section
namespace Go.Proofs.YtfpkgdkcllobiaaDoor.F
open Go.RowKit Go.Proofs.YtfpkgdkcllobiaaDoorW.PrintWords Go.Proofs.YtfpkgdkcllobiaaDoorW.PrintLast Go.Proofs.YtfpkgdkcllobiaaDoorW.PrintMore
set_option linter.unusedVariables false
set_option linter.unusedSimpArgs false
def duty_Evaluate.f (a0 a1 a2 : Int) (b3 : Bool) (a4 : Int) (b5 : Bool) (a6 a7 a8 : Int) : Option (Int × Int) := some (D.deval a0 a1 a2 b3 a4 b5 a6 a7 a8)
set_option maxHeartbeats 8000000 in
set_option maxRecDepth 100000 in
theorem duty_Evaluate.bad (K : Nat) (a0 a1 a2 : Int) (b3 : Bool) (a4 : Int) (b5 : Bool) (a6 a7 a8 v : Int) (w : World) (hV : Aside0 (duty_Validate.f K a0 a1 a2 b3 a4 b5 a6 = some v)) (hn : (v != 0) = true) :
    Calls Tryd.prog 20 #[.agg #[.int .i64 a0, .int .i64 a1, .int .i64 a2, .bool b3, .int .i64 a4, .bool b5, .int .i64 a6], .int .i64 a7, .int .i64 a8] w fun r w' => r = .returned (.tuple #[.int .i64 0, .int .i64 v]) ∧ Below w.heap.size w w' := by
  have hu23 := Tryd.underlying23
  have HB := Aside0.mk (Below.refl w.heap.size w)
  go_enter Tryd.func20, Tryd.ntmps20
  go_wp2_with (first | ((with_reducible refine gate_dst (N := 3) rfl ?_); refine box_event ?hg (N := 3) ?hd (cs := #[.int .i64 a0, .int .i64 a1, .int .i64 a2, .bool b3, .int .i64 a4, .bool b5, .int .i64 a6]) (t := 23) ?hr ?_; (case hd => rfl); (case hg => rfl); (case hr => first | (go_simp; done) | (go_simp; rfl)); intro g3 hg wb3 hbox hb; have HB3 := Aside0.mk (below_step HB.out hb); have BK3 := Aside0.mk hbox; have GE3 := Aside0.mk (show w.heap.size ≤ g3 by rw [hg]; exact Nat.le_refl _); clear hg hb hbox) | ((with_reducible refine gate_dst (N := 4) rfl ?_); refine box_event ?hg (N := 4) ?hd (cs := #[.int .i64 a7]) (t := 3) ?hr ?_; (case hd => rfl); (case hg => rfl); (case hr => first | (go_simp; done) | (go_simp; rfl)); intro g4 hg wb4 hbox hb; have HB4 := Aside0.mk (below_step HB3.out hb); have BK4 := Aside0.mk hbox; have BK34 := Aside0.mk (blk_below BK3.out hb); have hc3_0 := blk_cell BK34.out 0; have hc3_1 := blk_cell BK34.out 1; have hc3_2 := blk_cell BK34.out 2; have hc3_3 := blk_cell BK34.out 3; have hc3_4 := blk_cell BK34.out 4; have hc3_5 := blk_cell BK34.out 5; have hc3_6 := blk_cell BK34.out 6; have hc4 := blk_cell BK4.out 0; clear hg hb hbox) | ((with_reducible refine gate_callee (f := 11) rfl ?_); refine goesL_ (some 16) rfl rfl Tryd.func11 (by kernel_rfl) rfl #[.agg #[.int .i64 a0, .int .i64 a1, .int .i64 a2, .bool b3, .int .i64 a4, .bool b5, .int .i64 a6]] rfl (by (try simp only [List.map_toArray, List.map_cons, List.map_nil]); first | done | rfl) ?_; (with_reducible refine (duty_Validate.calls K a0 a1 a2 b3 a4 b5 a6 v _ hV.out).mono ?_); rintro r wv ⟨rfl, hb⟩; refine ⟨_, rfl, ?_⟩; have HB5 := Aside0.mk (below_step HB4.out hb); have BK5_3 := Aside0.mk (blk_below BK34.out hb); have BK5_4 := Aside0.mk (blk_below BK4.out hb); have hv3_0 := blk_cell BK5_3.out 0; have hv3_1 := blk_cell BK5_3.out 1; have hv3_2 := blk_cell BK5_3.out 2; have hv3_3 := blk_cell BK5_3.out 3; have hv3_4 := blk_cell BK5_3.out 4; have hv3_5 := blk_cell BK5_3.out 5; have hv3_6 := blk_cell BK5_3.out 6; have hv4 := blk_cell BK5_4.out 0; clear hb))
  go_ret2
  exact ⟨rfl, HB5.out⟩
set_option maxHeartbeats 8000000 in
set_option maxRecDepth 100000 in
theorem duty_Evaluate.out (K : Nat) (a0 a1 a2 : Int) (b3 : Bool) (a4 : Int) (b5 : Bool) (a6 a7 a8 : Int) (w : World) (hV : Aside0 (duty_Validate.f K a0 a1 a2 b3 a4 b5 a6 = some 0)) (hn : a7 < 0 ∨ a7 > 1000000000000 ∨ a8 < 0 ∨ a8 > 1000000000) :
    Calls Tryd.prog 20 #[.agg #[.int .i64 a0, .int .i64 a1, .int .i64 a2, .bool b3, .int .i64 a4, .bool b5, .int .i64 a6], .int .i64 a7, .int .i64 a8] w fun r w' => r = .returned (.tuple #[.int .i64 0, .int .i64 2]) ∧ Below w.heap.size w w' := by
  have hu23 := Tryd.underlying23
  have HB := Aside0.mk (Below.refl w.heap.size w)
  have hn := Aside0.mk hn
  rename_i hn_
  clear hn_
  have hb : decide (a7 < 0) = true ∨ (decide (a7 < 0) = false ∧ decide (1000000000000 < a7) = true) ∨ (decide (a7 < 0) = false ∧ decide (1000000000000 < a7) = false ∧ decide (a8 < 0) = true) ∨ (decide (a7 < 0) = false ∧ decide (1000000000000 < a7) = false ∧ decide (a8 < 0) = false ∧ decide (1000000000 < a8) = true) := by
    have := hn.out
    simp only [decide_eq_true_eq, decide_eq_false_iff_not]
    omega
  rcases hb with d1 | ⟨d1, d2⟩ | ⟨d1, d2, d3⟩ | ⟨d1, d2, d3, d4⟩
  all_goals
    go_enter Tryd.func20, Tryd.ntmps20
    go_wp2_with (first | ((with_reducible refine gate_dst (N := 3) rfl ?_); refine box_event ?hg (N := 3) ?hd (cs := #[.int .i64 a0, .int .i64 a1, .int .i64 a2, .bool b3, .int .i64 a4, .bool b5, .int .i64 a6]) (t := 23) ?hr ?_; (case hd => rfl); (case hg => rfl); (case hr => first | (go_simp; done) | (go_simp; rfl)); intro g3 hg wb3 hbox hb; have HB3 := Aside0.mk (below_step HB.out hb); have BK3 := Aside0.mk hbox; have GE3 := Aside0.mk (show w.heap.size ≤ g3 by rw [hg]; exact Nat.le_refl _); clear hg hb hbox) | ((with_reducible refine gate_dst (N := 4) rfl ?_); refine box_event ?hg (N := 4) ?hd (cs := #[.int .i64 a7]) (t := 3) ?hr ?_; (case hd => rfl); (case hg => rfl); (case hr => first | (go_simp; done) | (go_simp; rfl)); intro g4 hg wb4 hbox hb; have HB4 := Aside0.mk (below_step HB3.out hb); have BK4 := Aside0.mk hbox; have BK34 := Aside0.mk (blk_below BK3.out hb); have hc3_0 := blk_cell BK34.out 0; have hc3_1 := blk_cell BK34.out 1; have hc3_2 := blk_cell BK34.out 2; have hc3_3 := blk_cell BK34.out 3; have hc3_4 := blk_cell BK34.out 4; have hc3_5 := blk_cell BK34.out 5; have hc3_6 := blk_cell BK34.out 6; have hc4 := blk_cell BK4.out 0; clear hg hb hbox) | ((with_reducible refine gate_callee (f := 11) rfl ?_); refine goesL_ (some 16) rfl rfl Tryd.func11 (by kernel_rfl) rfl #[.agg #[.int .i64 a0, .int .i64 a1, .int .i64 a2, .bool b3, .int .i64 a4, .bool b5, .int .i64 a6]] rfl (by (try simp only [List.map_toArray, List.map_cons, List.map_nil]); first | done | rfl) ?_; (with_reducible refine (duty_Validate.calls K a0 a1 a2 b3 a4 b5 a6 0 _ hV.out).mono ?_); rintro r wv ⟨rfl, hb⟩; refine ⟨_, rfl, ?_⟩; have HB5 := Aside0.mk (below_step HB4.out hb); have BK5_3 := Aside0.mk (blk_below BK34.out hb); have BK5_4 := Aside0.mk (blk_below BK4.out hb); have hv3_0 := blk_cell BK5_3.out 0; have hv3_1 := blk_cell BK5_3.out 1; have hv3_2 := blk_cell BK5_3.out 2; have hv3_3 := blk_cell BK5_3.out 3; have hv3_4 := blk_cell BK5_3.out 4; have hv3_5 := blk_cell BK5_3.out 5; have hv3_6 := blk_cell BK5_3.out 6; have hv4 := blk_cell BK5_4.out 0; clear hb))
    go_ret2
    exact ⟨rfl, HB5.out⟩
open D in
theorem rnd2_eq (N c : Int) : rnd 2 N c = rndh N c := by
  have e : D.up 2 (N / c) (N % c) c = decide (N % c ≥ c - N % c) := by unfold D.up; rw [if_neg (by decide), if_pos rfl]
  unfold rnd rndh
  rw [e]
  simp only [decide_eq_true_eq]
open D in
theorem pk_of (sg b : Bool) {rate v p W T : Int} (hr : rt rate) (v0 : 0 ≤ v) (v1 : v ≤ 1000000000000) (p0 : 0 ≤ p) (p1 : p ≤ 1000000) (W0 : 0 ≤ W) (W1 : W < 340282366920938463463374607431768211456)
    (hT : T = if b = true ∧ (if sg = true then shr_ rate v p < W else W < shr_ rate v p) then shr_ rate v p else W) :
    Pk sg b rate v (mxp p) (W / 18446744073709551616) (W % 18446744073709551616) (T / 18446744073709551616) (T % 18446744073709551616) := by
  have hs := shr_in_ hr v0 v1 p0 p1
  have hp := mxp_in p0 p1
  cases b with
  | false => rw [if_neg (by simp)] at hT; subst hT; exact Or.inl ⟨rfl, rfl, rfl⟩
  | true =>
    refine Or.inr ⟨rfl, ?_⟩
    have hrr := hr
    have e1 : IntKind.u64.wrap (IntKind.u64.wrap rate * IntKind.u64.wrap v) = rate * v := by
      unfold rt at hrr
      rw [u64w (x := rate) (by omega) (by omega), u64w (x := v) (by omega) (by omega), u64w (by omega) (by omega)]
    have e2 : exact_Mul.f (rate * v) (mxp p) = some (shr_ rate v p / 18446744073709551616, shr_ rate v p % 18446744073709551616) := by
      unfold exact_Mul.f bits_Mul64.f
      rw [if_pos ⟨by omega, by omega, by omega, by omega⟩]
      rfl
    generalize shr_ rate v p = M at *
    have M1 : M < 340282366920938463463374607431768211456 := by omega
    have cmp : exact_CompareWide.f (W / 18446744073709551616) (W % 18446744073709551616) (M / 18446744073709551616) (M % 18446744073709551616) = some (if W < M then -1 else if M < W then 1 else 0) := by
      unfold exact_CompareWide.f exact_order.f
      by_cases c1 : W / 18446744073709551616 < M / 18446744073709551616
      · rw [if_pos c1, if_pos (show W < M by omega)]
        rfl
      · rw [if_neg c1]
        by_cases c2 : W / 18446744073709551616 > M / 18446744073709551616
        · rw [if_pos c2, if_neg (show ¬ W < M by omega), if_pos (show M < W by omega)]
          rfl
        · rw [if_neg c2]
          by_cases c3 : W % 18446744073709551616 < M % 18446744073709551616
          · rw [if_pos c3, if_pos (show W < M by omega)]
            rfl
          · rw [if_neg c3]
            by_cases c4 : W % 18446744073709551616 > M % 18446744073709551616
            · rw [if_pos c4, if_neg (show ¬ W < M by omega), if_pos (show M < W by omega)]
              rfl
            · rw [if_neg c4, if_neg (show ¬ W < M by omega), if_neg (show ¬ M < W by omega)]
              rfl
    refine ⟨_, _, _, by rw [e1]; exact e2, cmp, ?_⟩
    cases sg with
    | true =>
      refine ⟨fun h => ?_, fun h => ?_⟩
      · have c : M < W := Decidable.byContradiction fun c => by rw [if_pos rfl, if_neg c] at h; revert h; split <;> decide
        rw [if_pos ⟨rfl, by simpa using c⟩] at hT
        subst hT
        exact ⟨rfl, rfl⟩
      · have c : ¬ M < W := fun c => by rw [if_pos rfl, if_neg (by omega), if_pos c] at h; revert h; decide
        rw [if_neg (by simp [c])] at hT
        subst hT
        exact ⟨rfl, rfl⟩
    | false =>
      refine ⟨fun h => ?_, fun h => ?_⟩
      · have c : W < M := Decidable.byContradiction fun c => by rw [if_neg (show ¬ (false = true) by decide), if_neg c] at h; revert h; split <;> decide
        rw [if_pos ⟨rfl, by simpa using c⟩] at hT
        subst hT
        exact ⟨rfl, rfl⟩
      · have c : ¬ W < M := fun c => by rw [if_neg (show ¬ (false = true) by decide), if_pos c] at h; revert h; decide
        rw [if_neg (by simp [c])] at hT
        subst hT
        exact ⟨rfl, rfl⟩
open D in
theorem duty_Evaluate.calls (a0 a1 a2 : Int) (b3 : Bool) (a4 : Int) (b5 : Bool) (a6 a7 a8 : Int) (r1 r2 : Int) (w : World) (h : duty_Evaluate.f a0 a1 a2 b3 a4 b5 a6 a7 a8 = some (r1, r2)) :
    Calls Tryd.prog 20 #[.agg #[.int .i64 a0, .int .i64 a1, .int .i64 a2, .bool b3, .int .i64 a4, .bool b5, .int .i64 a6], .int .i64 a7, .int .i64 a8] w fun e w' => e = .returned (.tuple #[.int .i64 r1, .int .i64 r2]) ∧ Below w.heap.size w w' := by
  replace h := Option.some.inj h
  unfold deval at h
  obtain ⟨K, hK⟩ := dvalidate_ev a0 a1 a2 b3 a4 b5 a6
  by_cases hv : dvalid a0 a1 a2 b3 a4 b5 a6 ≠ 0
  · rw [if_pos hv] at h
    simp only [Prod.mk.injEq] at h
    obtain ⟨rfl, rfl⟩ := h
    exact duty_Evaluate.bad K a0 a1 a2 b3 a4 b5 a6 a7 a8 _ w ⟨hK K (Nat.le_refl _)⟩ (by simpa using hv)
  · rw [if_neg hv] at h
    have hv0 : dvalid a0 a1 a2 b3 a4 b5 a6 = 0 := by simpa using hv
    rw [hv0] at hK
    by_cases hr : a7 < 0 ∨ a7 > 1000000000000 ∨ a8 < 0 ∨ a8 > 1000000000
    · rw [if_pos hr] at h
      simp only [Prod.mk.injEq] at h
      obtain ⟨rfl, rfl⟩ := h
      exact duty_Evaluate.out K a0 a1 a2 b3 a4 b5 a6 a7 a8 w ⟨hK K (Nat.le_refl _)⟩ hr
    · rw [if_neg hr] at h
      obtain ⟨hr0, ha0, ha1, hp1, hp2, hm, hl, -, -, -⟩ := dvalid_ok.1 hv0
      have pp : 0 ≤ a2 ∧ a2 ≤ 1000000 := by
        by_cases c : a1 = 0
        · have := hp1 c; omega
        · have := hp2 (by omega); omega
      have p0 := pp.1
      have p1 := pp.2
      have v0 : 0 ≤ a7 := by omega
      have v1 : a7 ≤ 1000000000000 := by omega
      have q0 : 0 ≤ a8 := by omega
      have q1 : a8 ≤ 1000000000 := by omega
      have hp := mxp_in p0 p1
      have hsum := sum_in hr0 ha0 ha1 v0 v1 q0 q1 p0 p1
      have hcap := cap_in (hm := b3) hm v0 v1 p0 p1 hsum.2.2.1 hsum.2.2.2
      have hflo := flo_in (hl := b5) hl v0 v1 p0 p1 hcap.1 hcap.2
      have hshr := shr_in_ hr0 v0 v1 p0 p1
      have hS1 : dsum a0 a1 a2 a7 a8 < 340282366920938463463374607431768211456 := by omega
      have hC1 : dcap a2 b3 a4 a7 (dsum a0 a1 a2 a7 a8) < 340282366920938463463374607431768211456 := by omega
      have hM := pk_of true b3 hm v0 v1 p0 p1 hsum.2.2.1 hS1 (T := dcap a2 b3 a4 a7 (dsum a0 a1 a2 a7 a8)) (by unfold dcap; simp only [gt_iff_lt, if_true])
      have hL := pk_of false b5 hl v0 v1 p0 p1 hcap.1 hC1 (T := dwide a0 a1 a2 b3 a4 b5 a6 a7 a8) (by unfold dwide dflo; simp)
      obtain ⟨K2, hD⟩ := exactDiv_ev (dwide a0 a1 a2 b3 a4 b5 a6 a7 a8 / 18446744073709551616) (dwide a0 a1 a2 b3 a4 b5 a6 a7 a8 % 18446744073709551616) (mxp a2 * 1000000) 2 (by unfold dwide; omega) (by unfold dwide; omega) (by omega) (by omega) (by omega) (by omega)
      rw [show dwide a0 a1 a2 b3 a4 b5 a6 a7 a8 / 18446744073709551616 * 18446744073709551616 + dwide a0 a1 a2 b3 a4 b5 a6 a7 a8 % 18446744073709551616 = dwide a0 a1 a2 b3 a4 b5 a6 a7 a8 by omega] at hD
      have hru : rnd 2 (dwide a0 a1 a2 b3 a4 b5 a6 a7 a8) (mxp a2 * 1000000) = dnum a0 a1 a2 b3 a4 b5 a6 a7 a8 := by
        exact rnd2_eq _ _
      have hnum : 0 ≤ dnum a0 a1 a2 b3 a4 b5 a6 a7 a8 ∧ dnum a0 a1 a2 b3 a4 b5 a6 a7 a8 ≤ 100010000000000000 + 1 := rndh_in (by omega) hflo.1 hflo.2
      have hdiv : divS 2 (dwide a0 a1 a2 b3 a4 b5 a6 a7 a8) (mxp a2 * 1000000) = (dnum a0 a1 a2 b3 a4 b5 a6 a7 a8, 0) := by
        unfold divS
        rw [if_neg (by omega), hru, if_neg (by omega)]
      rw [hdiv] at hD
      have hmx : IntKind.u64.wrap (mx a2 1) = mxp a2 := by
        rw [show mx a2 1 = mxp a2 from rfl, u64w (by omega) (by omega)]
      have e8 : IntKind.u64.wrap (mxp a2 * 1000000) = mxp a2 * 1000000 := u64w (by omega) (by omega)
      have hr0' := hr0
      unfold rt at hr0'
      have e1 : IntKind.u64.wrap (IntKind.u64.wrap a0 * IntKind.u64.wrap a7) = a0 * a7 := by
        rw [u64w (x := a0) (by omega) (by omega), u64w (x := a7) (by omega) (by omega), u64w (by omega) (by omega)]
      have e2 : IntKind.u64.wrap (IntKind.u64.wrap a1 * IntKind.u64.wrap a8) = a1 * a8 := by
        rw [u64w (x := a1) (by omega) (by omega), u64w (x := a8) (by omega) (by omega), u64w (by omega) (by omega)]
      have A1 : exact_Mul.f (a0 * a7) (mxp a2) = some (shr_ a0 a7 a2 / 18446744073709551616, shr_ a0 a7 a2 % 18446744073709551616) := by
        unfold exact_Mul.f bits_Mul64.f
        rw [if_pos ⟨by omega, by omega, by omega, by omega⟩]
        rfl
      have A2 : exact_Mul.f (a1 * a8) 1000000 = some (a1 * a8 * 1000000 / 18446744073709551616, a1 * a8 * 1000000 % 18446744073709551616) := by
        unfold exact_Mul.f bits_Mul64.f
        rw [if_pos ⟨by omega, by omega, by omega, by omega⟩]
        rfl
      have A3 : exact_Add.f (shr_ a0 a7 a2 / 18446744073709551616) (shr_ a0 a7 a2 % 18446744073709551616) (a1 * a8 * 1000000 / 18446744073709551616) (a1 * a8 * 1000000 % 18446744073709551616) = some (dsum a0 a1 a2 a7 a8 / 18446744073709551616, dsum a0 a1 a2 a7 a8 % 18446744073709551616, 0) := by
        unfold exact_Add.f dsum
        generalize shr_ a0 a7 a2 = X at *
        generalize a1 * a8 = Y at *
        rw [if_pos ⟨by omega, by omega, by omega, by omega, by omega, by omega, by omega, by omega⟩, if_pos (by omega)]
        congr 1
        refine Prod.ext ?_ (Prod.ext ?_ rfl) <;> simp only <;> omega
      refine duty_Evaluate.walk (max K K2) a0 a1 a2 b3 a4 b5 a6 a7 a8 (mxp a2) _ _ _ _ _ _ _ _ _ _ _ _ r1 r2 w ⟨hK _ (Nat.le_max_left _ _)⟩ (decide_eq_false (by omega)) (decide_eq_false (by omega)) (decide_eq_false (by omega)) (decide_eq_false (by omega)) hmx ⟨by rw [e1]; exact A1⟩ ⟨by rw [e2]; exact A2⟩ ⟨A3⟩ ⟨hM⟩ ⟨hL⟩ ⟨by rw [e8]; exact hD _ (Nat.le_max_right _ _)⟩ ⟨⟨fun c => ?_, fun c => ?_⟩⟩
      · rw [if_pos (by omega)] at h
        simp only [Prod.mk.injEq] at h
        exact ⟨h.1.symm, h.2.symm⟩
      · rw [if_neg (by omega)] at h
        simp only [Prod.mk.injEq] at h
        exact ⟨by rw [w64 (by omega) (by omega)]; exact h.1.symm, h.2.symm⟩
end Go.Proofs.YtfpkgdkcllobiaaDoor.F
end
section
namespace Go.Proofs.YtfpkgdkcllobiaaDoor.F
open Go.RowKit Go.Proofs.YtfpkgdkcllobiaaDoorW.PrintWords Go.Proofs.YtfpkgdkcllobiaaDoorW.PrintLast Go.Proofs.YtfpkgdkcllobiaaDoorW.PrintMore
attribute [local go_sem] max2_int min2_int max_two min_two max_three min_three max_four min_four
set_option linter.unusedVariables false
set_option linter.unusedSimpArgs false
attribute [local go_sem high] eqA23
/-! ### customslaw18_awake: function 14 -/
def customslaw18_awake.f (k : Nat)  : Option (Bool) := (duty_Parse.f k (⟨#[53, 37, 32, 43, 32, 51, 46, 50, 48, 47, 49, 48, 48, 32, 109, 97, 120, 32, 49, 48, 37, 32, 109, 105, 110, 32, 50, 37]⟩ : ByteArray)).bind fun bt243 => ((duty_Evaluate.f bt243.1 bt243.2.1 bt243.2.2.1 bt243.2.2.2.1 bt243.2.2.2.2.1 bt243.2.2.2.2.2.1 bt243.2.2.2.2.2.2.1 10000 100).bind fun bt252 => (if bt243.2.2.2.2.2.2.2 = 0 then (if (bt243.1 == 50000 && (bt243.2.1 == 320 && (bt243.2.2.1 == 100 && (bt243.2.2.2.1 && (bt243.2.2.2.2.1 == 100000 && (bt243.2.2.2.2.2.1 && (bt243.2.2.2.2.2.2.1 == 20000))))))) = true then (if bt252.1 = 820 then (if bt252.2 = 0 then ((duty_Format.f k 0 0 0 false 0 false 0).bind fun t254 => (some (t254.toList == ([48, 37] : List UInt8)))) else (some false)) else (some false)) else (some false)) else (some false)))
theorem customslaw18_awake.mono : ∀ k, LeO (customslaw18_awake.f k ) (customslaw18_awake.f (k + 1) ) := by
  intro  k; (unfold customslaw18_awake.f)
  repeat' first
      | (with_reducible exact duty_Format.mono _ _ _ _ _ _ _ _)
      | (with_reducible exact duty_Parse.mono _ _)
      | (with_reducible exact LeO.refl _)
      | (with_reducible exact LeO.none _)
      | (with_reducible refine LeO.ite ?_ ?_)
      | (with_reducible refine LeO.bind ?_ (fun _ => ?_))
      | exact duty_Format.mono _ _ _ _ _ _ _ _
      | exact duty_Parse.mono _ _
      | exact LeO.none _
      | refine LeO.ite ?_ ?_
      | refine LeO.bind ?_ (fun _ => ?_)
set_option maxHeartbeats 8000000 in
set_option maxRecDepth 100000 in
theorem customslaw18_awake.calls (k : Nat)  (r : Bool) (w : World) (hG : Gl w) (h : customslaw18_awake.f k  = some r) (hT_ : r = true) :
    Calls Tryd.prog 14 #[] w fun e w' => e = .returned (.bool r) ∧ Below w.heap.size w w' := by
  have hu23 := Tryd.underlying23; have HG := Aside0.mk hG; clear hG; (have HB := Aside0.mk (Below.refl w.heap.size w)); (have H : ((duty_Parse.f k (⟨#[53, 37, 32, 43, 32, 51, 46, 50, 48, 47, 49, 48, 48, 32, 109, 97, 120, 32, 49, 48, 37, 32, 109, 105, 110, 32, 50, 37]⟩ : ByteArray)).bind fun bt243 => ((duty_Evaluate.f bt243.1 bt243.2.1 bt243.2.2.1 bt243.2.2.2.1 bt243.2.2.2.2.1 bt243.2.2.2.2.2.1 bt243.2.2.2.2.2.2.1 10000 100).bind fun bt252 => (if bt243.2.2.2.2.2.2.2 = 0 then (if (bt243.1 == 50000 && (bt243.2.1 == 320 && (bt243.2.2.1 == 100 && (bt243.2.2.2.1 && (bt243.2.2.2.2.1 == 100000 && (bt243.2.2.2.2.2.1 && (bt243.2.2.2.2.2.2.1 == 20000))))))) = true then (if bt252.1 = 820 then (if bt252.2 = 0 then ((duty_Format.f k 0 0 0 false 0 false 0).bind fun t254 => (some (t254.toList == ([48, 37] : List UInt8)))) else (some false)) else (some false)) else (some false)) else (some false)))) = some r := h); clear h; (replace H := Option.bind_eq_some_iff.mp H); (obtain ⟨⟨t243, t244, t245, t246, t247, t248, t249, t250⟩, A10, H⟩ := H); (replace H : ((duty_Evaluate.f t243 t244 t245 t246 t247 t248 t249 10000 100).bind fun bt252 => (if t250 = 0 then (if (t243 == 50000 && (t244 == 320 && (t245 == 100 && (t246 && (t247 == 100000 && (t248 && (t249 == 20000))))))) = true then (if bt252.1 = 820 then (if bt252.2 = 0 then ((duty_Format.f k 0 0 0 false 0 false 0).bind fun t254 => (some (t254.toList == ([48, 37] : List UInt8)))) else (some false)) else (some false)) else (some false)) else (some false))) = some r := H); have A1 := Aside0.mk A10; clear A10; (replace H := Option.bind_eq_some_iff.mp H); (obtain ⟨⟨t252, t253⟩, A20, H⟩ := H); (replace H : (if t250 = 0 then (if (t243 == 50000 && (t244 == 320 && (t245 == 100 && (t246 && (t247 == 100000 && (t248 && (t249 == 20000))))))) = true then (if t252 = 820 then (if t253 = 0 then ((duty_Format.f k 0 0 0 false 0 false 0).bind fun t254 => (some (t254.toList == ([48, 37] : List UInt8)))) else (some false)) else (some false)) else (some false)) else (some false)) = some r := H); have A2 := Aside0.mk A20; clear A20; (by_cases c3 : t250 = 0)
  · (rw [if_pos c3] at H); (have c3b0 : (t250 == 0) = true := beq_iff_eq.mpr c3); (have c3b1 : (t250 != 0) = false := bne_eq_false_iff_eq.mpr c3); clear c3; (by_cases c4 : (t243 == 50000 && (t244 == 320 && (t245 == 100 && (t246 && (t247 == 100000 && (t248 && (t249 == 20000))))))) = true)
    · (rw [if_pos c4] at H); (have c4b0 : (t243 == 50000 && (t244 == 320 && (t245 == 100 && (t246 && (t247 == 100000 && (t248 && (t249 == 20000))))))) = true := c4); (try (have c4b1 : decide (t243 = 50000 && (t244 == 320 && (t245 == 100 && (t246 && (t247 == 100000 && (t248 && (t249 == 20000))))))) = true := by simpa using c4)); (try (have c4b2 : (t243 == 50000 && (t244 == 320 && (t245 == 100 && (t246 && (t247 == 100000 && (t248 && (t249 == 20000))))))) = true := by simpa using c4)); clear c4; (by_cases c5 : t252 = 820)
      · (rw [if_pos c5] at H); (have c5b0 : (t252 == 820) = true := beq_iff_eq.mpr c5); (have c5b1 : (t252 != 820) = false := bne_eq_false_iff_eq.mpr c5); clear c5; (by_cases c6 : t253 = 0)
        · (rw [if_pos c6] at H); (have c6b0 : (t253 == 0) = true := beq_iff_eq.mpr c6); (have c6b1 : (t253 != 0) = false := bne_eq_false_iff_eq.mpr c6); clear c6; (replace H := Option.bind_eq_some_iff.mp H); (obtain ⟨t254, A70, H⟩ := H); (replace H : (some (t254.toList == ([48, 37] : List UInt8))) = some r := H); have A7 := Aside0.mk A70; clear A70; have hQ_ := Aside0.mk hT_; clear hT_; (obtain rfl := Option.some.inj H); (go_enter Tryd.func14, Tryd.ntmps14); (go_wp2_with (first | ((with_reducible refine gate_callee (f := 17) rfl ?_); refine goesL_ (some 6) rfl rfl Tryd.func17 (by kernel_rfl) rfl #[.string (⟨#[53, 37, 32, 43, 32, 51, 46, 50, 48, 47, 49, 48, 48, 32, 109, 97, 120, 32, 49, 48, 37, 32, 109, 105, 110, 32, 50, 37]⟩ : ByteArray)] rfl (by (try simp only [List.map_toArray, List.map_cons, List.map_nil]); first | done | rfl | (simp only [List.length_drop, List.length_take]; rfl)) ?_; (with_reducible refine (duty_Parse.calls k (⟨#[53, 37, 32, 43, 32, 51, 46, 50, 48, 47, 49, 48, 48, 32, 109, 97, 120, 32, 49, 48, 37, 32, 109, 105, 110, 32, 50, 37]⟩ : ByteArray) t243 t244 t245 t246 t247 t248 t249 t250 _ ?side1 A1.out).mono ?_); (case side1 => exact Gl.below HG.out HB.out); rintro e w8 ⟨rfl, hb⟩; refine ⟨_, rfl, ?_⟩; have n0_ := Aside0.mk (below_step HB.out hb); clear HB; have HB := n0_; clear n0_; (try clear hb); (try clear hb2); (try clear hk); (try clear hi)) | ((with_reducible refine gate_dst (N := 1) rfl ?_); refine box_event ?hg (N := 1) ?hd (cs := #[.int .i64 0, .int .i64 0, .int .i64 0, .bool false, .int .i64 0, .bool false, .int .i64 0]) (t := 23) ?hr ?_; (case hd => rfl); (case hg => rfl); (case hr => first | (go_simp; done) | (go_simp; rfl)); intro gb251 hg w9 hbox hb; have n0_ := Aside0.mk (below_step HB.out hb); have n1_ := Aside0.mk (hbox); have n2_ := Aside0.mk ((by rw [hg]; exact (below_size HB.out) : w.heap.size ≤ gb251)); have n3_ := Aside0.mk ((by rw [hg]; exact (below_size HB.out) : w.heap.size ≤ gb251)); clear HB; have HB := n0_; have BK251 := n1_; have GW251 := n2_; have GE251 := n3_; clear n0_ n1_ n2_ n3_; clear hb hbox hg; have hcz10_0 : w9.cell? ⟨gb251, 0, none⟩ = some (.int .i64 0) := (blk_cell BK251.out 0).trans rfl; have hcz10_1 : w9.cell? ⟨gb251, 1, none⟩ = some (.int .i64 0) := (blk_cell BK251.out 1).trans rfl; have hcz10_2 : w9.cell? ⟨gb251, 2, none⟩ = some (.int .i64 0) := (blk_cell BK251.out 2).trans rfl; have hcz10_3 : w9.cell? ⟨gb251, 3, none⟩ = some (.bool false) := (blk_cell BK251.out 3).trans rfl; have hcz10_4 : w9.cell? ⟨gb251, 4, none⟩ = some (.int .i64 0) := (blk_cell BK251.out 4).trans rfl; have hcz10_5 : w9.cell? ⟨gb251, 5, none⟩ = some (.bool false) := (blk_cell BK251.out 5).trans rfl; have hcz10_6 : w9.cell? ⟨gb251, 6, none⟩ = some (.int .i64 0) := (blk_cell BK251.out 6).trans rfl; have hfz10_0 := blk_frozen BK251.out 0; have hfz10_1 := blk_frozen BK251.out 1; have hfz10_2 := blk_frozen BK251.out 2; have hfz10_3 := blk_frozen BK251.out 3; have hfz10_4 := blk_frozen BK251.out 4; have hfz10_5 := blk_frozen BK251.out 5; have hfz10_6 := blk_frozen BK251.out 6) | ((with_reducible refine gate_callee (f := 20) rfl ?_); refine goesL_ (some 11) rfl rfl Tryd.func20 (by kernel_rfl) rfl #[.agg #[.int .i64 t243, .int .i64 t244, .int .i64 t245, .bool t246, .int .i64 t247, .bool t248, .int .i64 t249], .int .i64 10000, .int .i64 100] rfl (by (try simp only [List.map_toArray, List.map_cons, List.map_nil]); first | done | rfl | (simp only [List.length_drop, List.length_take]; rfl)) ?_; (with_reducible refine (duty_Evaluate.calls t243 t244 t245 t246 t247 t248 t249 10000 100 t252 t253 _ A2.out).mono ?_); rintro e w11 ⟨rfl, hb⟩; refine ⟨_, rfl, ?_⟩; have n0_ := Aside0.mk (blk_below (g := gb251) (o := .cells #[.int .i64 t243, .int .i64 t244, .int .i64 t245, .bool t246, .int .i64 t247, .bool t248, .int .i64 t249] 23 (0, 0)) (by (with_reducible repeat (first | refine blk_drewN ?_ _ | refine blk_drew ?_ | refine blk_alloc ?_ _)); refine blk_put (cs := #[.int .i64 t243, .int .i64 t244, .int .i64 t245, .bool t246, .int .i64 t247, .bool t248, .int .i64 0]) ?_ 6 _ rfl; (with_reducible repeat (first | refine blk_drewN ?_ _ | refine blk_drew ?_ | refine blk_alloc ?_ _)); refine blk_put (cs := #[.int .i64 t243, .int .i64 t244, .int .i64 t245, .bool t246, .int .i64 t247, .bool false, .int .i64 0]) ?_ 5 _ rfl; (with_reducible repeat (first | refine blk_drewN ?_ _ | refine blk_drew ?_ | refine blk_alloc ?_ _)); refine blk_put (cs := #[.int .i64 t243, .int .i64 t244, .int .i64 t245, .bool t246, .int .i64 0, .bool false, .int .i64 0]) ?_ 4 _ rfl; (with_reducible repeat (first | refine blk_drewN ?_ _ | refine blk_drew ?_ | refine blk_alloc ?_ _)); refine blk_put (cs := #[.int .i64 t243, .int .i64 t244, .int .i64 t245, .bool false, .int .i64 0, .bool false, .int .i64 0]) ?_ 3 _ rfl; (with_reducible repeat (first | refine blk_drewN ?_ _ | refine blk_drew ?_ | refine blk_alloc ?_ _)); refine blk_put (cs := #[.int .i64 t243, .int .i64 t244, .int .i64 0, .bool false, .int .i64 0, .bool false, .int .i64 0]) ?_ 2 _ rfl; (with_reducible repeat (first | refine blk_drewN ?_ _ | refine blk_drew ?_ | refine blk_alloc ?_ _)); refine blk_put (cs := #[.int .i64 t243, .int .i64 0, .int .i64 0, .bool false, .int .i64 0, .bool false, .int .i64 0]) ?_ 1 _ rfl; (with_reducible repeat (first | refine blk_drewN ?_ _ | refine blk_drew ?_ | refine blk_alloc ?_ _)); refine blk_put (cs := #[.int .i64 0, .int .i64 0, .int .i64 0, .bool false, .int .i64 0, .bool false, .int .i64 0]) ?_ 0 _ rfl; (with_reducible repeat (first | refine blk_drewN ?_ _ | refine blk_drew ?_ | refine blk_alloc ?_ _)); exact BK251.out) hb); have n1_ := Aside0.mk (below_step (by repeat (first | (with_reducible first | exact HB.out | apply below_alloc | apply pw_below_drewN | apply below_drew1 | refine below_set ?_ GE251.out) | exact HB.out)) hb); clear BK251; clear HB; have BK251 := n0_; have HB := n1_; clear n0_ n1_; (try clear hb); (try clear hb2); (try clear hk); (try clear hi); have hcz12_0 : w11.cell? ⟨gb251, 0, none⟩ = some (.int .i64 t243) := (blk_cell BK251.out 0).trans rfl; have hcz12_1 : w11.cell? ⟨gb251, 1, none⟩ = some (.int .i64 t244) := (blk_cell BK251.out 1).trans rfl; have hcz12_2 : w11.cell? ⟨gb251, 2, none⟩ = some (.int .i64 t245) := (blk_cell BK251.out 2).trans rfl; have hcz12_3 : w11.cell? ⟨gb251, 3, none⟩ = some (.bool t246) := (blk_cell BK251.out 3).trans rfl; have hcz12_4 : w11.cell? ⟨gb251, 4, none⟩ = some (.int .i64 t247) := (blk_cell BK251.out 4).trans rfl; have hcz12_5 : w11.cell? ⟨gb251, 5, none⟩ = some (.bool t248) := (blk_cell BK251.out 5).trans rfl; have hcz12_6 : w11.cell? ⟨gb251, 6, none⟩ = some (.int .i64 t249) := (blk_cell BK251.out 6).trans rfl; have hfz12_0 := blk_frozen BK251.out 0; have hfz12_1 := blk_frozen BK251.out 1; have hfz12_2 := blk_frozen BK251.out 2; have hfz12_3 := blk_frozen BK251.out 3; have hfz12_4 := blk_frozen BK251.out 4; have hfz12_5 := blk_frozen BK251.out 5; have hfz12_6 := blk_frozen BK251.out 6) | (go_at_call 15; (with_reducible refine (duty_Format.calls k 0 0 0 false 0 false 0 t254 _ ?side1 A7.out).mono ?_); (case side1 => exact Gl.below HG.out HB.out); rintro e w13 ⟨rfl, hb⟩; have n0_ := Aside0.mk (blk_below (g := gb251) (o := .cells #[.int .i64 t243, .int .i64 t244, .int .i64 t245, .bool t246, .int .i64 t247, .bool t248, .int .i64 t249] 23 (0, 0)) BK251.out hb); have n1_ := Aside0.mk (below_step HB.out hb); clear BK251; clear HB; have BK251 := n0_; have HB := n1_; clear n0_ n1_; (try clear hb); (try clear hb2); (try clear hk); (try clear hi)))); go_ret; (exact ⟨by first | rfl | (simp [errW_none, errW_some] <;> rfl) | (simp [*, errW_none, errW_some] <;> rfl), by repeat (first | (with_reducible first | exact HB.out | apply below_alloc | apply pw_below_drewN | apply below_drew1 | refine below_set ?_ GE251.out) | exact HB.out)⟩)
        · (rw [if_neg c6] at H); exact absurd (H.trans (congrArg some hT_)) (by decide)
      · (rw [if_neg c5] at H); exact absurd (H.trans (congrArg some hT_)) (by decide)
    · (rw [if_neg c4] at H); exact absurd (H.trans (congrArg some hT_)) (by decide)
  · (rw [if_neg c3] at H); exact absurd (H.trans (congrArg some hT_)) (by decide)
end Go.Proofs.YtfpkgdkcllobiaaDoor.F
end
section
namespace Go.Proofs.YtfpkgdkcllobiaaDoor.F
open Go.RowKit Go.Proofs.YtfpkgdkcllobiaaDoorW.PrintWords Go.Proofs.YtfpkgdkcllobiaaDoorW.PrintLast Go.Proofs.YtfpkgdkcllobiaaDoorW.PrintMore
attribute [local go_sem] max2_int min2_int max_two min_two max_three min_three max_four min_four
set_option linter.unusedVariables false
set_option linter.unusedSimpArgs false
/-! ### customslaw18_DutyEvaluate: function 6 -/
def customslaw18_DutyEvaluate.j0 : Nat → Int → Int → Bool → Bool → Int → Int → Int → Bool → Int → Bool → Int → Option (Bool)
  | 0, _, _, _, _, _, _, _, _, _, _, _ => none
  | k + 1, x2, x3, x4, x5, x517000, x517001, x517002, x517003, x517004, x517005, x517006 => if x5 = true then ((duty_Evaluate.f x517000 x517001 x517002 x517003 x517004 x517005 x517006 x2 x3).bind fun bt517 => ((customsref17_Evaluate.f k x517000 x517001 x517002 x517003 x517004 x517005 x517006 x2 x3).bind fun bt519 => (if bt517.1 = bt519.1 then (if bt517.2 = bt519.2 then ((customslaw18_awake.f k).bind fun t521 => (some t521)) else (some false)) else (some false)))) else ((customslaw18_amount.f x2 x4).bind fun t522 => ((customsmade_Within.f x3 1000000001).bind fun t523 => ((duty_Evaluate.f x517000 x517001 x517002 x517003 x517004 x517005 x517006 t522 t523).bind fun bt524 => ((customsref17_Evaluate.f k x517000 x517001 x517002 x517003 x517004 x517005 x517006 t522 t523).bind fun bt526 => (if bt524.1 = bt526.1 then (if bt524.2 = bt526.2 then ((customslaw18_awake.f k).bind fun t528 => (some t528)) else (some false)) else (some false))))))
def customslaw18_DutyEvaluate.f (k : Nat) (l0 : List Int) (a1_0 : Int) (a1_1 : Int) (a1_2 : Int) (a1_3 : Bool) (a1_4 : Int) (a1_5 : Bool) (a1_6 : Int) (a2 : Int) (a3 : Int) (a4 : Bool) (a5 : Bool) (a6 : Int) : Option (Bool) := (customsmade_Duty.f k l0).bind fun bt509 => (if (Go.bits .and .i64 a6 3) = 1 then (customslaw18_DutyEvaluate.j0 k a2 a3 a4 a5 a1_0 a1_1 a1_2 a1_3 a1_4 a1_5 a1_6) else (customslaw18_DutyEvaluate.j0 k a2 a3 a4 a5 bt509.1 bt509.2.1 bt509.2.2.1 bt509.2.2.2.1 bt509.2.2.2.2.1 bt509.2.2.2.2.2.1 bt509.2.2.2.2.2.2))
theorem customslaw18_DutyEvaluate.mono_l : ∀ k, (∀ y0 y1 y2 y3 y4 y5 y6 y7 y8 y9 y10, LeO (customslaw18_DutyEvaluate.j0 k y0 y1 y2 y3 y4 y5 y6 y7 y8 y9 y10) (customslaw18_DutyEvaluate.j0 (k + 1) y0 y1 y2 y3 y4 y5 y6 y7 y8 y9 y10))
  | 0 => fun _ _ _ _ _ _ _ _ _ _ _ r h => by simp [customslaw18_DutyEvaluate.j0] at h
  | k + 1 => by
    have ih0 := customslaw18_DutyEvaluate.mono_l k
    · intro y0 y1 y2 y3 y4 y5 y6 y7 y8 y9 y10
      unfold customslaw18_DutyEvaluate.j0
      repeat' first
      | (with_reducible exact ih0 _ _ _ _ _ _ _ _ _ _ _)
      | (with_reducible exact customslaw18_awake.mono _)
      | (with_reducible exact customsmade_Duty.mono _ _)
      | (with_reducible exact customsref17_Evaluate.mono _ _ _ _ _ _ _ _ _ _)
      | (with_reducible exact LeO.refl _)
      | (with_reducible exact LeO.none _)
      | (with_reducible refine LeO.ite ?_ ?_)
      | (with_reducible refine LeO.bind ?_ (fun _ => ?_))
      | exact ih0 _ _ _ _ _ _ _ _ _ _ _
      | exact customslaw18_awake.mono _
      | exact customsmade_Duty.mono _ _
      | exact customsref17_Evaluate.mono _ _ _ _ _ _ _ _ _ _
      | exact LeO.none _
      | refine LeO.ite ?_ ?_
      | refine LeO.bind ?_ (fun _ => ?_)
theorem customslaw18_DutyEvaluate.mono : ∀ a0 a1 a2 a3 a4 a5 a6 a7 a8 a9 a10 a11 a12 k, LeO (customslaw18_DutyEvaluate.f k a0 a1 a2 a3 a4 a5 a6 a7 a8 a9 a10 a11 a12) (customslaw18_DutyEvaluate.f (k + 1) a0 a1 a2 a3 a4 a5 a6 a7 a8 a9 a10 a11 a12) := by
  intro a0 a1 a2 a3 a4 a5 a6 a7 a8 a9 a10 a11 a12 k; (have ih0 := customslaw18_DutyEvaluate.mono_l k); (unfold customslaw18_DutyEvaluate.f)
  repeat' first
      | (with_reducible exact ih0 _ _ _ _ _ _ _ _ _ _ _)
      | (with_reducible exact customslaw18_awake.mono _)
      | (with_reducible exact customsmade_Duty.mono _ _)
      | (with_reducible exact customsref17_Evaluate.mono _ _ _ _ _ _ _ _ _ _)
      | (with_reducible exact LeO.refl _)
      | (with_reducible exact LeO.none _)
      | (with_reducible refine LeO.ite ?_ ?_)
      | (with_reducible refine LeO.bind ?_ (fun _ => ?_))
      | exact ih0 _ _ _ _ _ _ _ _ _ _ _
      | exact customslaw18_awake.mono _
      | exact customsmade_Duty.mono _ _
      | exact customsref17_Evaluate.mono _ _ _ _ _ _ _ _ _ _
      | exact LeO.none _
      | refine LeO.ite ?_ ?_
      | refine LeO.bind ?_ (fun _ => ?_)
set_option maxHeartbeats 8000000 in
set_option maxRecDepth 100000 in
theorem customslaw18_DutyEvaluate.calls (k : Nat) (A0 : Option Addr) (c0 : Nat) (l0 : List Int) (a1_0 : Int) (a1_1 : Int) (a1_2 : Int) (a1_3 : Bool) (a1_4 : Int) (a1_5 : Bool) (a1_6 : Int) (a2 : Int) (a3 : Int) (a4 : Bool) (a5 : Bool) (a6 : Int) (r : Bool) (w : World) (hG : Gl w) (hr0 : Kd.C (Kd.int .i64) w A0 l0.length l0) (hc0 : l0.length ≤ c0) (h : customslaw18_DutyEvaluate.f k l0 a1_0 a1_1 a1_2 a1_3 a1_4 a1_5 a1_6 a2 a3 a4 a5 a6 = some r) (hT_ : r = true) :
    Calls Tryd.prog 6 #[.slice A0 l0.length c0, .agg #[.int .i64 a1_0, .int .i64 a1_1, .int .i64 a1_2, .bool a1_3, .int .i64 a1_4, .bool a1_5, .int .i64 a1_6], .int .i64 a2, .int .i64 a3, .bool a4, .bool a5, .int .i64 a6] w fun e w' => e = .returned (.bool r) ∧ Below w.heap.size w w' := by
  have hu23 := Tryd.underlying23; have HR0 := Aside0.mk hr0; have HC0 := Aside0.mk hc0; clear hr0 hc0; have HG := Aside0.mk hG; clear hG; (have HB := Aside0.mk (Below.refl w.heap.size w)); (have H : ((customsmade_Duty.f k l0).bind fun bt509 => (if (Go.bits .and .i64 a6 3) = 1 then (customslaw18_DutyEvaluate.j0 k a2 a3 a4 a5 a1_0 a1_1 a1_2 a1_3 a1_4 a1_5 a1_6) else (customslaw18_DutyEvaluate.j0 k a2 a3 a4 a5 bt509.1 bt509.2.1 bt509.2.2.1 bt509.2.2.2.1 bt509.2.2.2.2.1 bt509.2.2.2.2.2.1 bt509.2.2.2.2.2.2))) = some r := h); clear h; (replace H := Option.bind_eq_some_iff.mp H); (obtain ⟨⟨t509, t510, t511, t512, t513, t514, t515⟩, A80, H⟩ := H); (replace H : (if (Go.bits .and .i64 a6 3) = 1 then (customslaw18_DutyEvaluate.j0 k a2 a3 a4 a5 a1_0 a1_1 a1_2 a1_3 a1_4 a1_5 a1_6) else (customslaw18_DutyEvaluate.j0 k a2 a3 a4 a5 t509 t510 t511 t512 t513 t514 t515)) = some r := H); have A8 := Aside0.mk A80; clear A80; have HC9 := Aside0.mk H; clear H; (go_enter Tryd.func6, Tryd.ntmps6); (go_upto_if 24 with (first | ((with_reducible refine gate_dst (N := 8) rfl ?_); refine box_event ?hg (N := 8) ?hd (cs := #[.int .i64 a1_0, .int .i64 a1_1, .int .i64 a1_2, .bool a1_3, .int .i64 a1_4, .bool a1_5, .int .i64 a1_6]) (t := 23) ?hr ?_; (case hd => rfl); (case hg => rfl); (case hr => first | (go_simp; done) | (go_simp; rfl)); intro gb508 hg w10 hbox hb; have n0_ := Aside0.mk (below_step HB.out hb); have n1_ := Aside0.mk (hbox); have n2_ := Aside0.mk ((by rw [hg]; exact (below_size HB.out) : w.heap.size ≤ gb508)); have n3_ := Aside0.mk ((by rw [hg]; exact (below_size HB.out) : w.heap.size ≤ gb508)); clear HB; have HB := n0_; have BK508 := n1_; have GW508 := n2_; have GE508 := n3_; clear n0_ n1_ n2_ n3_; clear hb hbox hg) | ((with_reducible refine gate_callee (f := 10) rfl ?_); refine goesL_ (some 21) rfl rfl Tryd.func10 (by kernel_rfl) rfl #[.slice A0 l0.length c0] rfl (by (try simp only [List.map_toArray, List.map_cons, List.map_nil]); first | done | rfl | (simp only [List.length_drop, List.length_take]; rfl)) ?_; (with_reducible refine (customsmade_Duty.calls k _ _ l0 t509 t510 t511 t512 t513 t514 t515 _ ?side1 ?side2 A8.out).mono ?_); (case side1 => repeat (first | exact (Kd.C_below HR0.out HB.out) | (with_reducible refine Kd.C_alloc ?_ _) | (with_reducible refine Kd.C_drewN ?_ _) | (with_reducible refine Kd.C_drew ?_))); (case side2 => exact HC0.out); rintro e w11 ⟨rfl, hb⟩; refine ⟨_, rfl, ?_⟩; have n0_ := Aside0.mk (blk_below (g := gb508) (o := .cells #[.int .i64 a1_0, .int .i64 a1_1, .int .i64 a1_2, .bool a1_3, .int .i64 a1_4, .bool a1_5, .int .i64 a1_6] 23 (0, 0)) BK508.out hb); have n1_ := Aside0.mk (below_step HB.out hb); clear BK508; clear HB; have BK508 := n0_; have HB := n1_; clear n0_ n1_; (try clear hb); (try clear hb2); (try clear hk); (try clear hi)) | ((with_reducible refine gate_dst (N := 15) rfl ?_); refine box_event ?hg (N := 15) ?hd (cs := #[.int .i64 0, .int .i64 0, .int .i64 0, .bool false, .int .i64 0, .bool false, .int .i64 0]) (t := 23) ?hr ?_; (case hd => rfl); (case hg => rfl); (case hr => first | (go_simp; done) | (go_simp; rfl)); intro gb516 hg w12 hbox hb; have n0_ := Aside0.mk (blk_below (g := gb508) (o := .cells #[.int .i64 a1_0, .int .i64 a1_1, .int .i64 a1_2, .bool a1_3, .int .i64 a1_4, .bool a1_5, .int .i64 a1_6] 23 (0, 0)) BK508.out hb); have n1_ := Aside0.mk (below_step HB.out hb); have n2_ := Aside0.mk (hbox); have n3_ := Aside0.mk ((by rw [hg]; exact (below_size HB.out) : w.heap.size ≤ gb516)); have n4_ := Aside0.mk ((by rw [hg]; exact (below_size HB.out) : w.heap.size ≤ gb516)); have n5_ := Aside0.mk ((by rw [hg]; exact Nat.ne_of_lt (blk_lt (g := gb508) (o := .cells #[.int .i64 a1_0, .int .i64 a1_1, .int .i64 a1_2, .bool a1_3, .int .i64 a1_4, .bool a1_5, .int .i64 a1_6] 23 (0, 0)) BK508.out) : gb508 ≠ gb516)); have n6_ := Aside0.mk ((by rw [hg]; exact Nat.ne_of_gt (blk_lt (g := gb508) (o := .cells #[.int .i64 a1_0, .int .i64 a1_1, .int .i64 a1_2, .bool a1_3, .int .i64 a1_4, .bool a1_5, .int .i64 a1_6] 23 (0, 0)) BK508.out) : gb516 ≠ gb508)); clear BK508; clear HB; have BK508 := n0_; have HB := n1_; have BK516 := n2_; have GW516 := n3_; have GE516 := n4_; have NB508_516 := n5_; have NB516_508 := n6_; clear n0_ n1_ n2_ n3_ n4_ n5_ n6_; clear hb hbox hg; have hnb13 := NB516_508.out; have hnc13 := NB508_516.out; have hcz14_0 : w12.cell? ⟨gb516, 0, none⟩ = some (.int .i64 0) := (blk_cell BK516.out 0).trans rfl; have hcz14_1 : w12.cell? ⟨gb516, 1, none⟩ = some (.int .i64 0) := (blk_cell BK516.out 1).trans rfl; have hcz14_2 : w12.cell? ⟨gb516, 2, none⟩ = some (.int .i64 0) := (blk_cell BK516.out 2).trans rfl; have hcz14_3 : w12.cell? ⟨gb516, 3, none⟩ = some (.bool false) := (blk_cell BK516.out 3).trans rfl; have hcz14_4 : w12.cell? ⟨gb516, 4, none⟩ = some (.int .i64 0) := (blk_cell BK516.out 4).trans rfl; have hcz14_5 : w12.cell? ⟨gb516, 5, none⟩ = some (.bool false) := (blk_cell BK516.out 5).trans rfl; have hcz14_6 : w12.cell? ⟨gb516, 6, none⟩ = some (.int .i64 0) := (blk_cell BK516.out 6).trans rfl; have hfz14_0 := blk_frozen BK516.out 0; have hfz14_1 := blk_frozen BK516.out 1; have hfz14_2 := blk_frozen BK516.out 2; have hfz14_3 := blk_frozen BK516.out 3; have hfz14_4 := blk_frozen BK516.out 4; have hfz14_5 := blk_frozen BK516.out 5; have hfz14_6 := blk_frozen BK516.out 6))); (try simp only [Act.put, List.setIfInBounds_toArray, List.set_cons_zero, List.set_cons_succ]); (go_cut [] (fun wc => ∃ (kq : Nat) (x517000_8 : Int) (x517001_8 : Int) (x517002_8 : Int) (x517003_8 : Bool) (x517004_8 : Int) (x517005_8 : Bool) (x517006_8 : Int), Aside0 (customslaw18_DutyEvaluate.j0 kq a2 a3 a4 a5 x517000_8 x517001_8 x517002_8 x517003_8 x517004_8 x517005_8 x517006_8 = some r) ∧ Aside0 (kq ≤ k) ∧ Aside0 (wc.heap[gb508]? = some (.cells #[.int .i64 a1_0, .int .i64 a1_1, .int .i64 a1_2, .bool a1_3, .int .i64 a1_4, .bool a1_5, .int .i64 a1_6] 23 (0, 0))) ∧ Aside0 (wc.heap[gb516]? = some (.cells #[.int .i64 x517000_8, .int .i64 x517001_8, .int .i64 x517002_8, .bool x517003_8, .int .i64 x517004_8, .bool x517005_8, .int .i64 x517006_8] 23 (0, 0))) ∧ Aside0 (Below w.heap.size w wc)))
  case first =>
    have H := HC9.out; clear HC9; (by_cases c15 : (Go.bits .and .i64 a6 3) = 1)
    · (rw [if_pos c15] at H); (have c15b0 : ((Go.bits .and .i64 a6 3) == 1) = true := beq_iff_eq.mpr c15); (have c15b1 : ((Go.bits .and .i64 a6 3) != 1) = false := bne_eq_false_iff_eq.mpr c15); clear c15; (first | rw [c15b0] | (simp only [i64_w, i32_w]; rw [c15b0]) | skip); have H' := Aside0.mk H; clear H; have hnb16 := NB508_516.out; have hnc16 := NB516_508.out; (have hcz17_0 : w12.cell? ⟨gb508, 0, none⟩ = some (.int .i64 a1_0) := (blk_cell BK508.out 0).trans rfl); (have hcz17_1 : w12.cell? ⟨gb508, 1, none⟩ = some (.int .i64 a1_1) := (blk_cell BK508.out 1).trans rfl); (have hcz17_2 : w12.cell? ⟨gb508, 2, none⟩ = some (.int .i64 a1_2) := (blk_cell BK508.out 2).trans rfl); (have hcz17_3 : w12.cell? ⟨gb508, 3, none⟩ = some (.bool a1_3) := (blk_cell BK508.out 3).trans rfl); (have hcz17_4 : w12.cell? ⟨gb508, 4, none⟩ = some (.int .i64 a1_4) := (blk_cell BK508.out 4).trans rfl); (have hcz17_5 : w12.cell? ⟨gb508, 5, none⟩ = some (.bool a1_5) := (blk_cell BK508.out 5).trans rfl); (have hcz17_6 : w12.cell? ⟨gb508, 6, none⟩ = some (.int .i64 a1_6) := (blk_cell BK508.out 6).trans rfl); (have hfz17_0 := blk_frozen BK508.out 0); (have hfz17_1 := blk_frozen BK508.out 1); (have hfz17_2 := blk_frozen BK508.out 2); (have hfz17_3 := blk_frozen BK508.out 3); (have hfz17_4 := blk_frozen BK508.out 4); (have hfz17_5 := blk_frozen BK508.out 5); (have hfz17_6 := blk_frozen BK508.out 6); (have hcz18_0 : w12.cell? ⟨gb516, 0, none⟩ = some (.int .i64 0) := (blk_cell BK516.out 0).trans rfl); (have hcz18_1 : w12.cell? ⟨gb516, 1, none⟩ = some (.int .i64 0) := (blk_cell BK516.out 1).trans rfl); (have hcz18_2 : w12.cell? ⟨gb516, 2, none⟩ = some (.int .i64 0) := (blk_cell BK516.out 2).trans rfl); (have hcz18_3 : w12.cell? ⟨gb516, 3, none⟩ = some (.bool false) := (blk_cell BK516.out 3).trans rfl); (have hcz18_4 : w12.cell? ⟨gb516, 4, none⟩ = some (.int .i64 0) := (blk_cell BK516.out 4).trans rfl); (have hcz18_5 : w12.cell? ⟨gb516, 5, none⟩ = some (.bool false) := (blk_cell BK516.out 5).trans rfl); (have hcz18_6 : w12.cell? ⟨gb516, 6, none⟩ = some (.int .i64 0) := (blk_cell BK516.out 6).trans rfl); (have hfz18_0 := blk_frozen BK516.out 0); (have hfz18_1 := blk_frozen BK516.out 1); (have hfz18_2 := blk_frozen BK516.out 2); (have hfz18_3 := blk_frozen BK516.out 3); (have hfz18_4 := blk_frozen BK516.out 4); (have hfz18_5 := blk_frozen BK516.out 5); (have hfz18_6 := blk_frozen BK516.out 6); go_wp2; (go_meet); (case rel => exact ⟨_, (a1_0), (a1_1), (a1_2), (a1_3), (a1_4), (a1_5), (a1_6), H', ⟨by first | omega | exact Nat.le_refl _⟩, ⟨by (with_reducible repeat (first | refine blk_drewN ?_ _ | refine blk_drew ?_ | refine blk_alloc ?_ _)); refine blk_far ?_ NB508_516.out _; (with_reducible repeat (first | refine blk_drewN ?_ _ | refine blk_drew ?_ | refine blk_alloc ?_ _)); refine blk_far ?_ NB508_516.out _; (with_reducible repeat (first | refine blk_drewN ?_ _ | refine blk_drew ?_ | refine blk_alloc ?_ _)); refine blk_far ?_ NB508_516.out _; (with_reducible repeat (first | refine blk_drewN ?_ _ | refine blk_drew ?_ | refine blk_alloc ?_ _)); refine blk_far ?_ NB508_516.out _; (with_reducible repeat (first | refine blk_drewN ?_ _ | refine blk_drew ?_ | refine blk_alloc ?_ _)); refine blk_far ?_ NB508_516.out _; (with_reducible repeat (first | refine blk_drewN ?_ _ | refine blk_drew ?_ | refine blk_alloc ?_ _)); refine blk_far ?_ NB508_516.out _; (with_reducible repeat (first | refine blk_drewN ?_ _ | refine blk_drew ?_ | refine blk_alloc ?_ _)); refine blk_far ?_ NB508_516.out _; (with_reducible repeat (first | refine blk_drewN ?_ _ | refine blk_drew ?_ | refine blk_alloc ?_ _)); refine blk_far ?_ NB508_516.out _; (with_reducible repeat (first | refine blk_drewN ?_ _ | refine blk_drew ?_ | refine blk_alloc ?_ _)); refine blk_far ?_ NB508_516.out _; (with_reducible repeat (first | refine blk_drewN ?_ _ | refine blk_drew ?_ | refine blk_alloc ?_ _)); refine blk_far ?_ NB508_516.out _; (with_reducible repeat (first | refine blk_drewN ?_ _ | refine blk_drew ?_ | refine blk_alloc ?_ _)); refine blk_far ?_ NB508_516.out _; (with_reducible repeat (first | refine blk_drewN ?_ _ | refine blk_drew ?_ | refine blk_alloc ?_ _)); refine blk_far ?_ NB508_516.out _; (with_reducible repeat (first | refine blk_drewN ?_ _ | refine blk_drew ?_ | refine blk_alloc ?_ _)); refine blk_far ?_ NB508_516.out _; (with_reducible repeat (first | refine blk_drewN ?_ _ | refine blk_drew ?_ | refine blk_alloc ?_ _)); refine blk_far ?_ NB508_516.out _; (with_reducible repeat (first | refine blk_drewN ?_ _ | refine blk_drew ?_ | refine blk_alloc ?_ _)); exact BK508.out⟩, ⟨by (with_reducible repeat (first | refine blk_drewN ?_ _ | refine blk_drew ?_ | refine blk_alloc ?_ _)); refine blk_put (cs := #[.int .i64 a1_0, .int .i64 a1_1, .int .i64 a1_2, .bool a1_3, .int .i64 a1_4, .bool a1_5, .int .i64 t515]) ?_ 6 _ rfl; (with_reducible repeat (first | refine blk_drewN ?_ _ | refine blk_drew ?_ | refine blk_alloc ?_ _)); refine blk_put (cs := #[.int .i64 a1_0, .int .i64 a1_1, .int .i64 a1_2, .bool a1_3, .int .i64 a1_4, .bool t514, .int .i64 t515]) ?_ 5 _ rfl; (with_reducible repeat (first | refine blk_drewN ?_ _ | refine blk_drew ?_ | refine blk_alloc ?_ _)); refine blk_put (cs := #[.int .i64 a1_0, .int .i64 a1_1, .int .i64 a1_2, .bool a1_3, .int .i64 t513, .bool t514, .int .i64 t515]) ?_ 4 _ rfl; (with_reducible repeat (first | refine blk_drewN ?_ _ | refine blk_drew ?_ | refine blk_alloc ?_ _)); refine blk_put (cs := #[.int .i64 a1_0, .int .i64 a1_1, .int .i64 a1_2, .bool t512, .int .i64 t513, .bool t514, .int .i64 t515]) ?_ 3 _ rfl; (with_reducible repeat (first | refine blk_drewN ?_ _ | refine blk_drew ?_ | refine blk_alloc ?_ _)); refine blk_put (cs := #[.int .i64 a1_0, .int .i64 a1_1, .int .i64 t511, .bool t512, .int .i64 t513, .bool t514, .int .i64 t515]) ?_ 2 _ rfl; (with_reducible repeat (first | refine blk_drewN ?_ _ | refine blk_drew ?_ | refine blk_alloc ?_ _)); refine blk_put (cs := #[.int .i64 a1_0, .int .i64 t510, .int .i64 t511, .bool t512, .int .i64 t513, .bool t514, .int .i64 t515]) ?_ 1 _ rfl; (with_reducible repeat (first | refine blk_drewN ?_ _ | refine blk_drew ?_ | refine blk_alloc ?_ _)); refine blk_put (cs := #[.int .i64 t509, .int .i64 t510, .int .i64 t511, .bool t512, .int .i64 t513, .bool t514, .int .i64 t515]) ?_ 0 _ rfl; (with_reducible repeat (first | refine blk_drewN ?_ _ | refine blk_drew ?_ | refine blk_alloc ?_ _)); refine blk_put (cs := #[.int .i64 t509, .int .i64 t510, .int .i64 t511, .bool t512, .int .i64 t513, .bool t514, .int .i64 0]) ?_ 6 _ rfl; (with_reducible repeat (first | refine blk_drewN ?_ _ | refine blk_drew ?_ | refine blk_alloc ?_ _)); refine blk_put (cs := #[.int .i64 t509, .int .i64 t510, .int .i64 t511, .bool t512, .int .i64 t513, .bool false, .int .i64 0]) ?_ 5 _ rfl; (with_reducible repeat (first | refine blk_drewN ?_ _ | refine blk_drew ?_ | refine blk_alloc ?_ _)); refine blk_put (cs := #[.int .i64 t509, .int .i64 t510, .int .i64 t511, .bool t512, .int .i64 0, .bool false, .int .i64 0]) ?_ 4 _ rfl; (with_reducible repeat (first | refine blk_drewN ?_ _ | refine blk_drew ?_ | refine blk_alloc ?_ _)); refine blk_put (cs := #[.int .i64 t509, .int .i64 t510, .int .i64 t511, .bool false, .int .i64 0, .bool false, .int .i64 0]) ?_ 3 _ rfl; (with_reducible repeat (first | refine blk_drewN ?_ _ | refine blk_drew ?_ | refine blk_alloc ?_ _)); refine blk_put (cs := #[.int .i64 t509, .int .i64 t510, .int .i64 0, .bool false, .int .i64 0, .bool false, .int .i64 0]) ?_ 2 _ rfl; (with_reducible repeat (first | refine blk_drewN ?_ _ | refine blk_drew ?_ | refine blk_alloc ?_ _)); refine blk_put (cs := #[.int .i64 t509, .int .i64 0, .int .i64 0, .bool false, .int .i64 0, .bool false, .int .i64 0]) ?_ 1 _ rfl; (with_reducible repeat (first | refine blk_drewN ?_ _ | refine blk_drew ?_ | refine blk_alloc ?_ _)); refine blk_put (cs := #[.int .i64 0, .int .i64 0, .int .i64 0, .bool false, .int .i64 0, .bool false, .int .i64 0]) ?_ 0 _ rfl; (with_reducible repeat (first | refine blk_drewN ?_ _ | refine blk_drew ?_ | refine blk_alloc ?_ _)); exact BK516.out⟩, ⟨by repeat (first | (with_reducible first | exact HB.out | apply below_alloc | apply pw_below_drewN | apply below_drew1 | refine below_set ?_ GE508.out | refine below_set ?_ GE516.out) | exact HB.out)⟩⟩)
    · (rw [if_neg c15] at H); (have c15b0 : ((Go.bits .and .i64 a6 3) == 1) = false := beq_eq_false_iff_ne.mpr c15); (have c15b1 : ((Go.bits .and .i64 a6 3) != 1) = true := bne_iff_ne.mpr c15); (first | rw [c15b0] | (simp only [i64_w, i32_w]; rw [c15b0]) | skip); have H' := Aside0.mk H; clear H; go_wp2; (go_meet); (case rel => exact ⟨_, (t509), (t510), (t511), (t512), (t513), (t514), (t515), H', ⟨by first | omega | exact Nat.le_refl _⟩, ⟨by (with_reducible repeat (first | refine blk_drewN ?_ _ | refine blk_drew ?_ | refine blk_alloc ?_ _)); refine blk_far ?_ NB508_516.out _; (with_reducible repeat (first | refine blk_drewN ?_ _ | refine blk_drew ?_ | refine blk_alloc ?_ _)); refine blk_far ?_ NB508_516.out _; (with_reducible repeat (first | refine blk_drewN ?_ _ | refine blk_drew ?_ | refine blk_alloc ?_ _)); refine blk_far ?_ NB508_516.out _; (with_reducible repeat (first | refine blk_drewN ?_ _ | refine blk_drew ?_ | refine blk_alloc ?_ _)); refine blk_far ?_ NB508_516.out _; (with_reducible repeat (first | refine blk_drewN ?_ _ | refine blk_drew ?_ | refine blk_alloc ?_ _)); refine blk_far ?_ NB508_516.out _; (with_reducible repeat (first | refine blk_drewN ?_ _ | refine blk_drew ?_ | refine blk_alloc ?_ _)); refine blk_far ?_ NB508_516.out _; (with_reducible repeat (first | refine blk_drewN ?_ _ | refine blk_drew ?_ | refine blk_alloc ?_ _)); refine blk_far ?_ NB508_516.out _; (with_reducible repeat (first | refine blk_drewN ?_ _ | refine blk_drew ?_ | refine blk_alloc ?_ _)); exact BK508.out⟩, ⟨by (with_reducible repeat (first | refine blk_drewN ?_ _ | refine blk_drew ?_ | refine blk_alloc ?_ _)); refine blk_put (cs := #[.int .i64 t509, .int .i64 t510, .int .i64 t511, .bool t512, .int .i64 t513, .bool t514, .int .i64 0]) ?_ 6 _ rfl; (with_reducible repeat (first | refine blk_drewN ?_ _ | refine blk_drew ?_ | refine blk_alloc ?_ _)); refine blk_put (cs := #[.int .i64 t509, .int .i64 t510, .int .i64 t511, .bool t512, .int .i64 t513, .bool false, .int .i64 0]) ?_ 5 _ rfl; (with_reducible repeat (first | refine blk_drewN ?_ _ | refine blk_drew ?_ | refine blk_alloc ?_ _)); refine blk_put (cs := #[.int .i64 t509, .int .i64 t510, .int .i64 t511, .bool t512, .int .i64 0, .bool false, .int .i64 0]) ?_ 4 _ rfl; (with_reducible repeat (first | refine blk_drewN ?_ _ | refine blk_drew ?_ | refine blk_alloc ?_ _)); refine blk_put (cs := #[.int .i64 t509, .int .i64 t510, .int .i64 t511, .bool false, .int .i64 0, .bool false, .int .i64 0]) ?_ 3 _ rfl; (with_reducible repeat (first | refine blk_drewN ?_ _ | refine blk_drew ?_ | refine blk_alloc ?_ _)); refine blk_put (cs := #[.int .i64 t509, .int .i64 t510, .int .i64 0, .bool false, .int .i64 0, .bool false, .int .i64 0]) ?_ 2 _ rfl; (with_reducible repeat (first | refine blk_drewN ?_ _ | refine blk_drew ?_ | refine blk_alloc ?_ _)); refine blk_put (cs := #[.int .i64 t509, .int .i64 0, .int .i64 0, .bool false, .int .i64 0, .bool false, .int .i64 0]) ?_ 1 _ rfl; (with_reducible repeat (first | refine blk_drewN ?_ _ | refine blk_drew ?_ | refine blk_alloc ?_ _)); refine blk_put (cs := #[.int .i64 0, .int .i64 0, .int .i64 0, .bool false, .int .i64 0, .bool false, .int .i64 0]) ?_ 0 _ rfl; (with_reducible repeat (first | refine blk_drewN ?_ _ | refine blk_drew ?_ | refine blk_alloc ?_ _)); exact BK516.out⟩, ⟨by repeat (first | (with_reducible first | exact HB.out | apply below_alloc | apply pw_below_drewN | apply below_drew1 | refine below_set ?_ GE508.out | refine below_set ?_ GE516.out) | exact HB.out)⟩⟩)
  case rest =>
    clear HC9; (try clear c1); (try clear p2); (try clear c6); (try clear c10); (try clear c13); (try clear c15); (try clear c15b0); (try clear c15b1); (try clear c16); (try clear hcz14_0); (try clear hcz14_1); (try clear hcz14_2); (try clear hcz14_3); (try clear hcz14_4); (try clear hcz14_5); (try clear hcz14_6); (try clear hcz17_0); (try clear hcz17_1); (try clear hcz17_2); (try clear hcz17_3); (try clear hcz17_4); (try clear hcz17_5); (try clear hcz17_6); (try clear hcz18_0); (try clear hcz18_1); (try clear hcz18_2); (try clear hcz18_3); (try clear hcz18_4); (try clear hcz18_5); (try clear hcz18_6); (try clear hfz14_0); (try clear hfz14_1); (try clear hfz14_2); (try clear hfz14_3); (try clear hfz14_4); (try clear hfz14_5); (try clear hfz14_6); (try clear hfz17_0); (try clear hfz17_1); (try clear hfz17_2); (try clear hfz17_3); (try clear hfz17_4); (try clear hfz17_5); (try clear hfz17_6); (try clear hfz18_0); (try clear hfz18_1); (try clear hfz18_2); (try clear hfz18_3); (try clear hfz18_4); (try clear hfz18_5); (try clear hfz18_6); (obtain ⟨kq, x517000_8, x517001_8, x517002_8, x517003_8, x517004_8, x517005_8, x517006_8, HA, HJ8, BK508, BK516, HB⟩ := hcut)
    cases kq with
    | zero => exact absurd HA.out (by simp [customslaw18_DutyEvaluate.j0])
    | succ kj8 =>
      have H := HA.out; clear HA; (simp only [customslaw18_DutyEvaluate.j0] at H); (by_cases c19 : a5 = true)
      · subst c19; rw [if_pos rfl] at H; (replace H := Option.bind_eq_some_iff.mp H); (obtain ⟨⟨t517, t518⟩, A200, H⟩ := H); (replace H : ((customsref17_Evaluate.f kj8 x517000_8 x517001_8 x517002_8 x517003_8 x517004_8 x517005_8 x517006_8 a2 a3).bind fun bt519 => (if t517 = bt519.1 then (if t518 = bt519.2 then ((customslaw18_awake.f kj8).bind fun t521 => (some t521)) else (some false)) else (some false))) = some r := H); have A20 := Aside0.mk A200; clear A200; (replace H := Option.bind_eq_some_iff.mp H); (obtain ⟨⟨t519, t520⟩, A210, H⟩ := H); (replace H : (if t517 = t519 then (if t518 = t520 then ((customslaw18_awake.f kj8).bind fun t521 => (some t521)) else (some false)) else (some false)) = some r := H); have A21 := Aside0.mk A210; clear A210; (by_cases c22 : t517 = t519)
        · (rw [if_pos c22] at H); (have c22b0 : (t517 == t519) = true := beq_iff_eq.mpr c22); (have c22b1 : (t517 != t519) = false := bne_eq_false_iff_eq.mpr c22); clear c22; (by_cases c23 : t518 = t520)
          · (rw [if_pos c23] at H); (have c23b0 : (t518 == t520) = true := beq_iff_eq.mpr c23); (have c23b1 : (t518 != t520) = false := bne_eq_false_iff_eq.mpr c23); clear c23; (replace H := Option.bind_eq_some_iff.mp H); (obtain ⟨t521, A240, H⟩ := H); (replace H : (some t521) = some r := H); have A24 := Aside0.mk A240; clear A240; (obtain rfl := Option.some.inj H); have hnb25 := NB516_508.out; have hnc25 := NB508_516.out; (have hcz26_0 : wc.cell? ⟨gb516, 0, none⟩ = some (.int .i64 x517000_8) := (blk_cell BK516.out 0).trans rfl); (have hcz26_1 : wc.cell? ⟨gb516, 1, none⟩ = some (.int .i64 x517001_8) := (blk_cell BK516.out 1).trans rfl); (have hcz26_2 : wc.cell? ⟨gb516, 2, none⟩ = some (.int .i64 x517002_8) := (blk_cell BK516.out 2).trans rfl); (have hcz26_3 : wc.cell? ⟨gb516, 3, none⟩ = some (.bool x517003_8) := (blk_cell BK516.out 3).trans rfl); (have hcz26_4 : wc.cell? ⟨gb516, 4, none⟩ = some (.int .i64 x517004_8) := (blk_cell BK516.out 4).trans rfl); (have hcz26_5 : wc.cell? ⟨gb516, 5, none⟩ = some (.bool x517005_8) := (blk_cell BK516.out 5).trans rfl); (have hcz26_6 : wc.cell? ⟨gb516, 6, none⟩ = some (.int .i64 x517006_8) := (blk_cell BK516.out 6).trans rfl); (have hfz26_0 := blk_frozen BK516.out 0); (have hfz26_1 := blk_frozen BK516.out 1); (have hfz26_2 := blk_frozen BK516.out 2); (have hfz26_3 := blk_frozen BK516.out 3); (have hfz26_4 := blk_frozen BK516.out 4); (have hfz26_5 := blk_frozen BK516.out 5); (have hfz26_6 := blk_frozen BK516.out 6); (go_wp2_with (first | ((with_reducible refine gate_callee (f := 20) rfl ?_); refine goesL_ (some 37) rfl rfl Tryd.func20 (by kernel_rfl) rfl #[.agg #[.int .i64 x517000_8, .int .i64 x517001_8, .int .i64 x517002_8, .bool x517003_8, .int .i64 x517004_8, .bool x517005_8, .int .i64 x517006_8], .int .i64 a2, .int .i64 a3] rfl (by (try simp only [List.map_toArray, List.map_cons, List.map_nil]); first | done | rfl | (simp only [List.length_drop, List.length_take]; rfl)) ?_; (with_reducible refine (duty_Evaluate.calls x517000_8 x517001_8 x517002_8 x517003_8 x517004_8 x517005_8 x517006_8 a2 a3 t517 t518 _ A20.out).mono ?_); rintro e w27 ⟨rfl, hb⟩; refine ⟨_, rfl, ?_⟩; have n0_ := Aside0.mk (blk_below (g := gb508) (o := .cells #[.int .i64 a1_0, .int .i64 a1_1, .int .i64 a1_2, .bool a1_3, .int .i64 a1_4, .bool a1_5, .int .i64 a1_6] 23 (0, 0)) BK508.out hb); have n1_ := Aside0.mk (blk_below (g := gb516) (o := .cells #[.int .i64 x517000_8, .int .i64 x517001_8, .int .i64 x517002_8, .bool x517003_8, .int .i64 x517004_8, .bool x517005_8, .int .i64 x517006_8] 23 (0, 0)) BK516.out hb); have n2_ := Aside0.mk (below_step HB.out hb); clear BK508; clear BK516; clear HB; have BK508 := n0_; have BK516 := n1_; have HB := n2_; clear n0_ n1_ n2_; (try clear hb); (try clear hb2); (try clear hk); (try clear hi); have hcz28_0 : w27.cell? ⟨gb516, 0, none⟩ = some (.int .i64 x517000_8) := (blk_cell BK516.out 0).trans rfl; have hcz28_1 : w27.cell? ⟨gb516, 1, none⟩ = some (.int .i64 x517001_8) := (blk_cell BK516.out 1).trans rfl; have hcz28_2 : w27.cell? ⟨gb516, 2, none⟩ = some (.int .i64 x517002_8) := (blk_cell BK516.out 2).trans rfl; have hcz28_3 : w27.cell? ⟨gb516, 3, none⟩ = some (.bool x517003_8) := (blk_cell BK516.out 3).trans rfl; have hcz28_4 : w27.cell? ⟨gb516, 4, none⟩ = some (.int .i64 x517004_8) := (blk_cell BK516.out 4).trans rfl; have hcz28_5 : w27.cell? ⟨gb516, 5, none⟩ = some (.bool x517005_8) := (blk_cell BK516.out 5).trans rfl; have hcz28_6 : w27.cell? ⟨gb516, 6, none⟩ = some (.int .i64 x517006_8) := (blk_cell BK516.out 6).trans rfl; have hfz28_0 := blk_frozen BK516.out 0; have hfz28_1 := blk_frozen BK516.out 1; have hfz28_2 := blk_frozen BK516.out 2; have hfz28_3 := blk_frozen BK516.out 3; have hfz28_4 := blk_frozen BK516.out 4; have hfz28_5 := blk_frozen BK516.out 5; have hfz28_6 := blk_frozen BK516.out 6) | ((with_reducible refine gate_callee (f := 21) rfl ?_); refine goesL_ (some 44) rfl rfl Tryd.func21 (by kernel_rfl) rfl #[.agg #[.int .i64 x517000_8, .int .i64 x517001_8, .int .i64 x517002_8, .bool x517003_8, .int .i64 x517004_8, .bool x517005_8, .int .i64 x517006_8], .int .i64 a2, .int .i64 a3] rfl (by (try simp only [List.map_toArray, List.map_cons, List.map_nil]); first | done | rfl | (simp only [List.length_drop, List.length_take]; rfl)) ?_; (with_reducible refine (customsref17_Evaluate.calls kj8 x517000_8 x517001_8 x517002_8 x517003_8 x517004_8 x517005_8 x517006_8 a2 a3 t519 t520 _ A21.out).mono ?_); rintro e w29 ⟨rfl, hb⟩; refine ⟨_, rfl, ?_⟩; have n0_ := Aside0.mk (blk_below (g := gb508) (o := .cells #[.int .i64 a1_0, .int .i64 a1_1, .int .i64 a1_2, .bool a1_3, .int .i64 a1_4, .bool a1_5, .int .i64 a1_6] 23 (0, 0)) BK508.out hb); have n1_ := Aside0.mk (blk_below (g := gb516) (o := .cells #[.int .i64 x517000_8, .int .i64 x517001_8, .int .i64 x517002_8, .bool x517003_8, .int .i64 x517004_8, .bool x517005_8, .int .i64 x517006_8] 23 (0, 0)) BK516.out hb); have n2_ := Aside0.mk (below_step HB.out hb); clear BK508; clear BK516; clear HB; have BK508 := n0_; have BK516 := n1_; have HB := n2_; clear n0_ n1_ n2_; (try clear hb); (try clear hb2); (try clear hk); (try clear hi)) | (go_at_call 14; (with_reducible refine (customslaw18_awake.calls kj8  t521 _ ?side1 A24.out hT_).mono ?_); (case side1 => exact Gl.below HG.out HB.out); rintro e w30 ⟨rfl, hb⟩; have n0_ := Aside0.mk (blk_below (g := gb508) (o := .cells #[.int .i64 a1_0, .int .i64 a1_1, .int .i64 a1_2, .bool a1_3, .int .i64 a1_4, .bool a1_5, .int .i64 a1_6] 23 (0, 0)) BK508.out hb); have n1_ := Aside0.mk (blk_below (g := gb516) (o := .cells #[.int .i64 x517000_8, .int .i64 x517001_8, .int .i64 x517002_8, .bool x517003_8, .int .i64 x517004_8, .bool x517005_8, .int .i64 x517006_8] 23 (0, 0)) BK516.out hb); have n2_ := Aside0.mk (below_step HB.out hb); clear BK508; clear BK516; clear HB; have BK508 := n0_; have BK516 := n1_; have HB := n2_; clear n0_ n1_ n2_; (try clear hb); (try clear hb2); (try clear hk); (try clear hi)))); go_ret; (exact ⟨by first | rfl | (simp [errW_none, errW_some] <;> rfl) | (simp [*, errW_none, errW_some] <;> rfl), by repeat (first | (with_reducible first | exact HB.out | apply below_alloc | apply pw_below_drewN | apply below_drew1 | refine below_set ?_ GE508.out | refine below_set ?_ GE516.out) | exact HB.out)⟩)
          · (rw [if_neg c23] at H); (have c23b0 : (t518 == t520) = false := beq_eq_false_iff_ne.mpr c23); (have c23b1 : (t518 != t520) = true := bne_iff_ne.mpr c23); (exact absurd (H.trans (congrArg some hT_)) (by decide))
        · (rw [if_neg c22] at H); (have c22b0 : (t517 == t519) = false := beq_eq_false_iff_ne.mpr c22); (have c22b1 : (t517 != t519) = true := bne_iff_ne.mpr c22); (exact absurd (H.trans (congrArg some hT_)) (by decide))
      · (replace c19 := Bool.eq_false_iff.mpr c19); subst c19; rw [if_neg (show ¬ (false = true) by decide)] at H; (replace H := Option.bind_eq_some_iff.mp H); (obtain ⟨t522, A410, H⟩ := H); (replace H : ((customsmade_Within.f a3 1000000001).bind fun t523 => ((duty_Evaluate.f x517000_8 x517001_8 x517002_8 x517003_8 x517004_8 x517005_8 x517006_8 t522 t523).bind fun bt524 => ((customsref17_Evaluate.f kj8 x517000_8 x517001_8 x517002_8 x517003_8 x517004_8 x517005_8 x517006_8 t522 t523).bind fun bt526 => (if bt524.1 = bt526.1 then (if bt524.2 = bt526.2 then ((customslaw18_awake.f kj8).bind fun t528 => (some t528)) else (some false)) else (some false))))) = some r := H); have A41 := Aside0.mk A410; clear A410; (replace H := Option.bind_eq_some_iff.mp H); (obtain ⟨t523, A420, H⟩ := H); (replace H : ((duty_Evaluate.f x517000_8 x517001_8 x517002_8 x517003_8 x517004_8 x517005_8 x517006_8 t522 t523).bind fun bt524 => ((customsref17_Evaluate.f kj8 x517000_8 x517001_8 x517002_8 x517003_8 x517004_8 x517005_8 x517006_8 t522 t523).bind fun bt526 => (if bt524.1 = bt526.1 then (if bt524.2 = bt526.2 then ((customslaw18_awake.f kj8).bind fun t528 => (some t528)) else (some false)) else (some false)))) = some r := H); have A42 := Aside0.mk A420; clear A420; (replace H := Option.bind_eq_some_iff.mp H); (obtain ⟨⟨t524, t525⟩, A430, H⟩ := H); (replace H : ((customsref17_Evaluate.f kj8 x517000_8 x517001_8 x517002_8 x517003_8 x517004_8 x517005_8 x517006_8 t522 t523).bind fun bt526 => (if t524 = bt526.1 then (if t525 = bt526.2 then ((customslaw18_awake.f kj8).bind fun t528 => (some t528)) else (some false)) else (some false))) = some r := H); have A43 := Aside0.mk A430; clear A430; (replace H := Option.bind_eq_some_iff.mp H); (obtain ⟨⟨t526, t527⟩, A440, H⟩ := H); (replace H : (if t524 = t526 then (if t525 = t527 then ((customslaw18_awake.f kj8).bind fun t528 => (some t528)) else (some false)) else (some false)) = some r := H); have A44 := Aside0.mk A440; clear A440; (by_cases c45 : t524 = t526)
        · (rw [if_pos c45] at H); (have c45b0 : (t524 == t526) = true := beq_iff_eq.mpr c45); (have c45b1 : (t524 != t526) = false := bne_eq_false_iff_eq.mpr c45); clear c45; (by_cases c46 : t525 = t527)
          · (rw [if_pos c46] at H); (have c46b0 : (t525 == t527) = true := beq_iff_eq.mpr c46); (have c46b1 : (t525 != t527) = false := bne_eq_false_iff_eq.mpr c46); clear c46; (replace H := Option.bind_eq_some_iff.mp H); (obtain ⟨t528, A470, H⟩ := H); (replace H : (some t528) = some r := H); have A47 := Aside0.mk A470; clear A470; (obtain rfl := Option.some.inj H); (go_wp2_with (first | ((with_reducible refine gate_callee (f := 19) rfl ?_); refine goesL_ (some 30) rfl rfl Tryd.func19 (by kernel_rfl) rfl #[.int .i64 a2, .bool a4] rfl (by (try simp only [List.map_toArray, List.map_cons, List.map_nil]); first | done | rfl | (simp only [List.length_drop, List.length_take]; rfl)) ?_; (with_reducible refine (customslaw18_amount.calls a2 a4 t522 _ A41.out).mono ?_); rintro e w' ⟨rfl, ⟨nd, rfl⟩⟩; refine ⟨_, rfl, ?_⟩) | ((with_reducible refine gate_callee (f := 13) rfl ?_); refine goesL_ (some 32) rfl rfl Tryd.func13 (by kernel_rfl) rfl #[.int .i64 a3, .int .i64 1000000001] rfl (by (try simp only [List.map_toArray, List.map_cons, List.map_nil]); first | done | rfl | (simp only [List.length_drop, List.length_take]; rfl)) ?_; (with_reducible refine (customsmade_Within.calls a3 1000000001 t523 _ A42.out).mono ?_); rintro e w' ⟨rfl, ⟨nd, rfl⟩⟩; refine ⟨_, rfl, ?_⟩; have hnb48 := NB516_508.out; have hnc48 := NB508_516.out; have hcz49_0 : wc.cell? ⟨gb516, 0, none⟩ = some (.int .i64 x517000_8) := (blk_cell BK516.out 0).trans rfl; have hcz49_1 : wc.cell? ⟨gb516, 1, none⟩ = some (.int .i64 x517001_8) := (blk_cell BK516.out 1).trans rfl; have hcz49_2 : wc.cell? ⟨gb516, 2, none⟩ = some (.int .i64 x517002_8) := (blk_cell BK516.out 2).trans rfl; have hcz49_3 : wc.cell? ⟨gb516, 3, none⟩ = some (.bool x517003_8) := (blk_cell BK516.out 3).trans rfl; have hcz49_4 : wc.cell? ⟨gb516, 4, none⟩ = some (.int .i64 x517004_8) := (blk_cell BK516.out 4).trans rfl; have hcz49_5 : wc.cell? ⟨gb516, 5, none⟩ = some (.bool x517005_8) := (blk_cell BK516.out 5).trans rfl; have hcz49_6 : wc.cell? ⟨gb516, 6, none⟩ = some (.int .i64 x517006_8) := (blk_cell BK516.out 6).trans rfl; have hfz49_0 := blk_frozen BK516.out 0; have hfz49_1 := blk_frozen BK516.out 1; have hfz49_2 := blk_frozen BK516.out 2; have hfz49_3 := blk_frozen BK516.out 3; have hfz49_4 := blk_frozen BK516.out 4; have hfz49_5 := blk_frozen BK516.out 5; have hfz49_6 := blk_frozen BK516.out 6) | ((with_reducible refine gate_callee (f := 20) rfl ?_); refine goesL_ (some 37) rfl rfl Tryd.func20 (by kernel_rfl) rfl #[.agg #[.int .i64 x517000_8, .int .i64 x517001_8, .int .i64 x517002_8, .bool x517003_8, .int .i64 x517004_8, .bool x517005_8, .int .i64 x517006_8], .int .i64 t522, .int .i64 t523] rfl (by (try simp only [List.map_toArray, List.map_cons, List.map_nil]); first | done | rfl | (simp only [List.length_drop, List.length_take]; rfl)) ?_; (with_reducible refine (duty_Evaluate.calls x517000_8 x517001_8 x517002_8 x517003_8 x517004_8 x517005_8 x517006_8 t522 t523 t524 t525 _ A43.out).mono ?_); rintro e w50 ⟨rfl, hb⟩; refine ⟨_, rfl, ?_⟩; have n0_ := Aside0.mk (blk_below (g := gb508) (o := .cells #[.int .i64 a1_0, .int .i64 a1_1, .int .i64 a1_2, .bool a1_3, .int .i64 a1_4, .bool a1_5, .int .i64 a1_6] 23 (0, 0)) (by (with_reducible repeat (first | refine blk_drewN ?_ _ | refine blk_drew ?_ | refine blk_alloc ?_ _)); exact BK508.out) hb); have n1_ := Aside0.mk (blk_below (g := gb516) (o := .cells #[.int .i64 x517000_8, .int .i64 x517001_8, .int .i64 x517002_8, .bool x517003_8, .int .i64 x517004_8, .bool x517005_8, .int .i64 x517006_8] 23 (0, 0)) (by (with_reducible repeat (first | refine blk_drewN ?_ _ | refine blk_drew ?_ | refine blk_alloc ?_ _)); exact BK516.out) hb); have n2_ := Aside0.mk (below_step (by repeat (first | (with_reducible first | exact HB.out | apply below_alloc | apply pw_below_drewN | apply below_drew1 | refine below_set ?_ GE508.out | refine below_set ?_ GE516.out) | exact HB.out)) hb); clear BK508; clear BK516; clear HB; have BK508 := n0_; have BK516 := n1_; have HB := n2_; clear n0_ n1_ n2_; (try clear hb); (try clear hb2); (try clear hk); (try clear hi); have hcz51_0 : w50.cell? ⟨gb516, 0, none⟩ = some (.int .i64 x517000_8) := (blk_cell BK516.out 0).trans rfl; have hcz51_1 : w50.cell? ⟨gb516, 1, none⟩ = some (.int .i64 x517001_8) := (blk_cell BK516.out 1).trans rfl; have hcz51_2 : w50.cell? ⟨gb516, 2, none⟩ = some (.int .i64 x517002_8) := (blk_cell BK516.out 2).trans rfl; have hcz51_3 : w50.cell? ⟨gb516, 3, none⟩ = some (.bool x517003_8) := (blk_cell BK516.out 3).trans rfl; have hcz51_4 : w50.cell? ⟨gb516, 4, none⟩ = some (.int .i64 x517004_8) := (blk_cell BK516.out 4).trans rfl; have hcz51_5 : w50.cell? ⟨gb516, 5, none⟩ = some (.bool x517005_8) := (blk_cell BK516.out 5).trans rfl; have hcz51_6 : w50.cell? ⟨gb516, 6, none⟩ = some (.int .i64 x517006_8) := (blk_cell BK516.out 6).trans rfl; have hfz51_0 := blk_frozen BK516.out 0; have hfz51_1 := blk_frozen BK516.out 1; have hfz51_2 := blk_frozen BK516.out 2; have hfz51_3 := blk_frozen BK516.out 3; have hfz51_4 := blk_frozen BK516.out 4; have hfz51_5 := blk_frozen BK516.out 5; have hfz51_6 := blk_frozen BK516.out 6) | ((with_reducible refine gate_callee (f := 21) rfl ?_); refine goesL_ (some 44) rfl rfl Tryd.func21 (by kernel_rfl) rfl #[.agg #[.int .i64 x517000_8, .int .i64 x517001_8, .int .i64 x517002_8, .bool x517003_8, .int .i64 x517004_8, .bool x517005_8, .int .i64 x517006_8], .int .i64 t522, .int .i64 t523] rfl (by (try simp only [List.map_toArray, List.map_cons, List.map_nil]); first | done | rfl | (simp only [List.length_drop, List.length_take]; rfl)) ?_; (with_reducible refine (customsref17_Evaluate.calls kj8 x517000_8 x517001_8 x517002_8 x517003_8 x517004_8 x517005_8 x517006_8 t522 t523 t526 t527 _ A44.out).mono ?_); rintro e w52 ⟨rfl, hb⟩; refine ⟨_, rfl, ?_⟩; have n0_ := Aside0.mk (blk_below (g := gb508) (o := .cells #[.int .i64 a1_0, .int .i64 a1_1, .int .i64 a1_2, .bool a1_3, .int .i64 a1_4, .bool a1_5, .int .i64 a1_6] 23 (0, 0)) BK508.out hb); have n1_ := Aside0.mk (blk_below (g := gb516) (o := .cells #[.int .i64 x517000_8, .int .i64 x517001_8, .int .i64 x517002_8, .bool x517003_8, .int .i64 x517004_8, .bool x517005_8, .int .i64 x517006_8] 23 (0, 0)) BK516.out hb); have n2_ := Aside0.mk (below_step HB.out hb); clear BK508; clear BK516; clear HB; have BK508 := n0_; have BK516 := n1_; have HB := n2_; clear n0_ n1_ n2_; (try clear hb); (try clear hb2); (try clear hk); (try clear hi)) | (go_at_call 14; (with_reducible refine (customslaw18_awake.calls kj8  t528 _ ?side1 A47.out hT_).mono ?_); (case side1 => exact Gl.below HG.out HB.out); rintro e w53 ⟨rfl, hb⟩; have n0_ := Aside0.mk (blk_below (g := gb508) (o := .cells #[.int .i64 a1_0, .int .i64 a1_1, .int .i64 a1_2, .bool a1_3, .int .i64 a1_4, .bool a1_5, .int .i64 a1_6] 23 (0, 0)) BK508.out hb); have n1_ := Aside0.mk (blk_below (g := gb516) (o := .cells #[.int .i64 x517000_8, .int .i64 x517001_8, .int .i64 x517002_8, .bool x517003_8, .int .i64 x517004_8, .bool x517005_8, .int .i64 x517006_8] 23 (0, 0)) BK516.out hb); have n2_ := Aside0.mk (below_step HB.out hb); clear BK508; clear BK516; clear HB; have BK508 := n0_; have BK516 := n1_; have HB := n2_; clear n0_ n1_ n2_; (try clear hb); (try clear hb2); (try clear hk); (try clear hi)))); go_ret; (exact ⟨by first | rfl | (simp [errW_none, errW_some] <;> rfl) | (simp [*, errW_none, errW_some] <;> rfl), by repeat (first | (with_reducible first | exact HB.out | apply below_alloc | apply pw_below_drewN | apply below_drew1 | refine below_set ?_ GE508.out | refine below_set ?_ GE516.out) | exact HB.out)⟩)
          · (rw [if_neg c46] at H); (have c46b0 : (t525 == t527) = false := beq_eq_false_iff_ne.mpr c46); (have c46b1 : (t525 != t527) = true := bne_iff_ne.mpr c46); (exact absurd (H.trans (congrArg some hT_)) (by decide))
        · (rw [if_neg c45] at H); (have c45b0 : (t524 == t526) = false := beq_eq_false_iff_ne.mpr c45); (have c45b1 : (t524 != t526) = true := bne_iff_ne.mpr c45); (exact absurd (H.trans (congrArg some hT_)) (by decide))
end Go.Proofs.YtfpkgdkcllobiaaDoor.F
end
