/- Layers 1 and 2 in plain words: exact division with rounding, the program's and the reference's, and Scale. -/
import Derived.Test.YtheknmeeioajfaaDoorArith
import Derived.Test.YtheknmeeioajfaaDoorEMul
import Derived.Test.YtheknmeeioajfaaDoorMoneyA
import Derived.Test.YtheknmeeioajfaaDoorF3 -- exact_above
import Derived.Test.YtheknmeeioajfaaDoorF3 -- exact_Div
import Derived.Test.YtheknmeeioajfaaDoorF3 -- exact_MulDiv
import Derived.Test.YtheknmeeioajfaaDoorF4 -- money_Scale
import Derived.Test.YtheknmeeioajfaaDoorF4 -- customsref01_Add
import Derived.Test.YtheknmeeioajfaaDoorF7 -- customsref01_Mul
import Derived.Test.YtheknmeeioajfaaDoorF5 -- customsref01_DivMod
import Derived.Test.YtheknmeeioajfaaDoorF6 -- customsref01_Div
import Derived.Test.YtheknmeeioajfaaDoorF7 -- customsref01_MulDiv
import Derived.Test.YtheknmeeioajfaaDoorF8 -- customsref02_Scale
import Derived.Test.YtheknmeeioajfaaDoorF8 -- money_Part
import Derived.Test.YtheknmeeioajfaaDoorF11 -- customsref02_Part
namespace Go.Proofs.YtheknmeeioajfaaDoor.D
set_option linter.unusedVariables false
set_option linter.unusedSimpArgs false
open Go.RowKit Go.Proofs.YtheknmeeioajfaaDoor.F Go.Proofs.YtheknmeeioajfaaDoorW.PrintWords Go.Proofs.YtheknmeeioajfaaDoorW.PrintMore
/-- Is the quotient q with the remainder r of a division by c rounded up? -/
def up (m q r c : Int) : Bool := if m = 1 then decide (r > 0) else if m = 2 then decide (r ≥ c - r) else if m = 3 then (if r > c - r then true else if r = c - r then decide (q % 2 = 1) else false) else false
def rnd (m N c : Int) : Int := N / c + if up m (N / c) (N % c) c = true then 1 else 0
def divS (m N c : Int) : Int × Int := if c = 0 ∨ m < 0 ∨ m > 3 then (0, 2) else if rnd m N c ≥ 18446744073709551616 then (0, 3) else (rnd m N c, 0)
theorem above_eq {q r c m : Int} (q0 : 0 ≤ q) (r0 : 0 ≤ r) (r1 : r < c) (c1 : c < 18446744073709551616) : exact_above.f q r c m = some (up m q r c) := by
  have key : ∀ t : Int, (t ≥ 0 ↔ r ≥ c - r) → (t > 0 ↔ r > c - r) →
      (if m = 1 then (some (decide (r > 0))) else (if m = 2 then (some (decide (t ≥ 0))) else (if m = 3 then (if t > 0 then (some true) else (if t = 0 then (some ((q % 2) == 1)) else (some false))) else (some false)))) = some (up m q r c) := by
    intro t h1 h2
    unfold up
    by_cases m1 : m = 1
    · rw [if_pos m1, if_pos m1]
    · rw [if_neg m1, if_neg m1]
      by_cases m2 : m = 2
      · rw [if_pos m2, if_pos m2]
        congr 1
        exact decide_eq_decide.2 h1
      · rw [if_neg m2, if_neg m2]
        by_cases m3 : m = 3
        · rw [if_pos m3, if_pos m3]
          by_cases g : r > c - r
          · rw [if_pos g, if_pos (h2.2 g)]
          · rw [if_neg g, if_neg (fun h => g (h2.1 h))]
            by_cases g2 : r = c - r
            · rw [if_pos g2, if_pos (by omega)]
              congr 1
            · rw [if_neg g2, if_neg (by omega)]
        · rw [if_neg m3, if_neg m3]
  unfold exact_above.f exact_order.f
  rw [u64w (by omega) (by omega), tmod_pos q0]
  by_cases h1 : r < c - r
  · rw [if_pos h1]
    exact key (-1) (by omega) (by omega)
  · rw [if_neg h1]
    by_cases h2 : r > c - r
    · rw [if_pos h2]
      exact key 1 (by omega) (by omega)
    · rw [if_neg h2]
      exact key 0 (by omega) (by omega)
theorem rnd_ge {m N c : Int} : N / c ≤ rnd m N c ∧ rnd m N c ≤ N / c + 1 := by
  unfold rnd
  split <;> omega
theorem exactDiv_ev (hi lo c m : Int) (h0 : 0 ≤ hi) (h1 : hi < 18446744073709551616) (l0 : 0 ≤ lo) (l1 : lo < 18446744073709551616) (c0 : 0 ≤ c) (c1 : c < 18446744073709551616) :
    Ev (fun k => exact_Div.f k hi lo c m) (divS m (hi * 18446744073709551616 + lo) c) := by
  unfold exact_Div.f
  have bad : c = 0 ∨ m < 0 ∨ m > 3 → Ev (fun k => exact_Div.j0 k c m true hi lo) (divS m (hi * 18446744073709551616 + lo) c) := fun h => by
    unfold divS
    rw [if_pos h]
    exact Ev.step (fun k => by rw [exact_Div.j0]) (ev_pos rfl (Ev.now _))
  refine ev_ite (fun h => bad (Or.inl h)) (fun hc => ev_ite (fun h => bad (Or.inr (Or.inl h))) (fun hm => ?_))
  by_cases h3 : m > 3
  · rw [decide_eq_true h3]; exact bad (Or.inr (Or.inr h3))
  · rw [decide_eq_false h3]
    unfold divS
    rw [if_neg (by omega)]
    generalize hN : hi * 18446744073709551616 + lo = N
    have hr := @rnd_ge m N c
    refine Ev.step (fun k => by rw [exact_Div.j0]) (ev_neg (by decide) (ev_ite (fun hh => ?_) (fun hh => ?_)))
    · rw [if_pos ?_]
      · exact Ev.now _
      · have : 18446744073709551616 ≤ N / c := by
          rw [Int.le_ediv_iff_mul_le (by omega)]
          have := Int.mul_le_mul_of_nonneg_left hh (show (0 : Int) ≤ 18446744073709551616 by omega)
          omega
        omega
    · have hd := div64_ev hi lo c h0 (by omega) c1 l0 l1
      rw [hN] at hd
      refine ev_bind hd ?_
      have hq0 : 0 ≤ N / c := Int.ediv_nonneg (by omega) (by omega)
      have hq1 : N / c < 18446744073709551616 := by
        rw [Int.ediv_lt_iff_lt_mul (by omega)]
        have := Int.mul_le_mul_of_nonneg_left (show hi + 1 ≤ c by omega) (show (0 : Int) ≤ 18446744073709551616 by omega)
        omega
      have hm0 := Int.emod_nonneg N (show c ≠ 0 by omega)
      have hm1 := Int.emod_lt_of_pos N (show 0 < c by omega)
      show Ev (fun k => (exact_above.f (N / c) (N % c) c m).bind _) _
      rw [above_eq hq0 hm0 hm1 c1]
      refine ev_let ?_
      show Ev (fun k => if up m (N / c) (N % c) c = true then (if IntKind.u64.wrap (N / c + 1) = 0 then some (0, 3) else some (IntKind.u64.wrap (N / c + 1), 0)) else some (N / c, 0)) _
      unfold rnd
      refine ev_ite (fun hu => ?_) (fun hu => ?_)
      · rw [if_pos hu]
        by_cases hw : N / c + 1 = 18446744073709551616
        · have e : (if N / c + 1 ≥ 18446744073709551616 then ((0 : Int), (3 : Int)) else (N / c + 1, 0)) = (0, 3) := if_pos (by omega)
          rw [e]
          exact ev_pos (by rw [hw, u64m]; rfl) (Ev.now _)
        · have e : (if N / c + 1 ≥ 18446744073709551616 then ((0 : Int), (3 : Int)) else (N / c + 1, 0)) = (N / c + 1, 0) := if_neg (by omega)
          rw [e, u64w (by omega) (by omega)]
          exact ev_neg (by omega) (Ev.now _)
      · rw [if_neg hu, Int.add_zero, if_neg (by omega)]
        exact Ev.now _
theorem exactMulDiv_ev (a b c m : Int) (a0 : 0 ≤ a) (a1 : a < 18446744073709551616) (b0 : 0 ≤ b) (b1 : b < 18446744073709551616) (c0 : 0 ≤ c) (c1 : c < 18446744073709551616) :
    Ev (fun k => exact_MulDiv.f k a b c m) (divS m (a * b) c) := by
  unfold exact_MulDiv.f exact_Mul.f bits_Mul64.f
  rw [if_pos ⟨a0, a1, b0, b1⟩]
  refine ev_let ?_
  have hp0 : 0 ≤ a * b := Int.mul_nonneg a0 b0
  have hp1 : a * b ≤ 18446744073709551615 * 18446744073709551615 := by
    have h1 := Int.mul_le_mul_of_nonneg_right (show a ≤ 18446744073709551615 by omega) b0
    omega
  generalize a * b = p at hp0 hp1
  have h := exactDiv_ev (p / 18446744073709551616) (p % 18446744073709551616) c m (by omega) (by omega) (by omega) (by omega) c0 c1
  rw [show p / 18446744073709551616 * 18446744073709551616 + p % 18446744073709551616 = p by omega] at h
  exact ev_bind h (Ev.now _)
/-! ### the reference -/
theorem add_eq {A B : Int} (a0 : 0 ≤ A) (b0 : 0 ≤ B) (h : A + B < 340282366920938463463374607431768211456) :
    customsref01_Add.f (A / 18446744073709551616) (A % 18446744073709551616) (B / 18446744073709551616) (B % 18446744073709551616) = some ((A + B) / 18446744073709551616, (A + B) % 18446744073709551616, false) := by
  unfold customsref01_Add.f
  by_cases hc : A % 18446744073709551616 + B % 18446744073709551616 < 18446744073709551616
  · rw [u64w (x := A % 18446744073709551616 + B % 18446744073709551616) (by omega) hc, if_neg (by omega), u64w (by omega) (by omega), decide_eq_false (by omega)]
    congr 1
    refine Prod.ext ?_ (Prod.ext ?_ rfl) <;> (simp only; omega)
  · have hw : IntKind.u64.wrap (A % 18446744073709551616 + B % 18446744073709551616) = A % 18446744073709551616 + B % 18446744073709551616 - 18446744073709551616 := by rw [u64m]; omega
    rw [hw, if_pos (by omega), u64w (x := A / 18446744073709551616 + B / 18446744073709551616) (by omega) (by omega), if_neg (by omega), u64w (by omega) (by omega)]
    have : ((A / 18446744073709551616 + B / 18446744073709551616 + 1) == 0) = false := beq_eq_false_iff_ne.2 (by omega)
    rw [this]
    congr 1
    refine Prod.ext ?_ (Prod.ext ?_ rfl) <;> (simp only; omega)
theorem bit_cast (x i : Nat) : ((x / 2 ^ i % 2 : Nat) : Int) = (x : Int) / 2 ^ i % 2 := by
  rw [Int.natCast_emod, Int.natCast_ediv, Int.natCast_pow]; rfl
theorem div_two_pow (x i : Nat) : x / 2 ^ i = 2 * (x / 2 ^ (i + 1)) + x / 2 ^ i % 2 := by
  have : x / 2 ^ (i + 1) = x / 2 ^ i / 2 := by rw [Nat.pow_succ, Nat.div_div_eq_div_mul]
  omega
theorem shr_bit {x i : Nat} (hi : i ≤ 64) (hx : x < 18446744073709551616) : bits .and .u64 (shr .u64 (x : Int) (i : Int)) 1 = ((x / 2 ^ i % 2 : Nat) : Int) := by
  rw [shr_in hi, bit_cast]
  have h1 : (0 : Int) ≤ (x : Int) / 2 ^ i := Int.ediv_nonneg (by omega) (by have := Nat.two_pow_pos i; exact_mod_cast Nat.zero_le _)
  have h2 : (x : Int) / 2 ^ i ≤ x := Int.ediv_le_self _ (by omega)
  exact and_one h1 (by omega)
theorem refMul_l (a b : Nat) (ha : a < 18446744073709551616) (hb : b < 18446744073709551616) (j : Nat) : j ≤ 64 → ∀ V : Nat, V = a * (b / 2 ^ j) →
    Ev (fun k => customsref01_Mul.l0 k (a : Int) (b : Int) ((j : Int) - 1) ((V : Int) / 18446744073709551616) ((V : Int) % 18446744073709551616)) (((a * b : Nat) : Int) / 18446744073709551616, ((a * b : Nat) : Int) % 18446744073709551616) := by
  have hab : a * b < 340282366920938463463374607431768211456 := by
    have := Nat.mul_lt_mul'' ha hb
    omega
  induction j with
  | zero =>
    intro _ V hV
    refine Ev.step (fun k => by rw [customsref01_Mul.l0]) (ev_neg (by omega) ?_)
    rw [Nat.pow_zero, Nat.div_one] at hV
    rw [hV]
    exact Ev.now _
  | succ j ih =>
    intro hj V hV
    have hd := div_two_pow b j
    have hle : a * (b / 2 ^ j) ≤ a * b := Nat.mul_le_mul_left a (Nat.div_le_self b _)
    have hV2 : 2 * V + a * (b / 2 ^ j % 2) = a * (b / 2 ^ j) := by
      rw [hV]
      generalize b / 2 ^ (j + 1) = g at hd
      generalize b / 2 ^ j % 2 = t at hd
      rw [hd, Nat.mul_add, Nat.mul_left_comm]
    refine Ev.step (fun k => by rw [customsref01_Mul.l0]) (ev_pos (by omega) ?_)
    rw [add_eq (A := (V : Int)) (B := (V : Int)) (by omega) (by omega) (by omega)]
    refine ev_let (ev_pos (by omega) ?_)
    rw [show (((j + 1 : Nat) : Int) - 1) = (j : Int) by omega, shr_bit (by omega) hb]
    rcases Nat.mod_two_eq_zero_or_one (b / 2 ^ j) with hz | ho
    · refine ev_neg (by omega) ?_
      rw [w64 (by omega) (by omega)]
      have := ih (by omega) (2 * V) (by rw [← hV2, hz]; omega)
      rw [show (((2 * V : Nat)) : Int) = (V : Int) + V by omega] at this
      exact this
    · refine ev_pos (by omega) ?_
      have hB := add_eq (A := (V : Int) + V) (B := (a : Int)) (by omega) (by omega) (by rw [ho] at hV2; omega)
      rw [show (a : Int) / 18446744073709551616 = 0 by omega, show (a : Int) % 18446744073709551616 = a by omega] at hB
      rw [hB]
      refine ev_let ?_
      rw [w64 (by omega) (by omega)]
      have := ih (by omega) (2 * V + a) (by rw [← hV2, ho]; omega)
      rw [show (((2 * V + a : Nat)) : Int) = (V : Int) + V + a by omega] at this
      exact this
theorem refMul_ev (a b : Nat) (ha : a < 18446744073709551616) (hb : b < 18446744073709551616) :
    Ev (fun k => customsref01_Mul.f k (a : Int) (b : Int)) (((a * b : Nat) : Int) / 18446744073709551616, ((a * b : Nat) : Int) % 18446744073709551616) := by
  have := refMul_l a b ha hb 64 (Nat.le_refl _) 0 (by rw [Nat.div_eq_of_lt (by omega)]; omega)
  exact this
end Go.Proofs.YtheknmeeioajfaaDoor.D
namespace Go.Proofs.YtheknmeeioajfaaDoor.D
set_option linter.unusedVariables false
set_option linter.unusedSimpArgs false
open Go.RowKit Go.Proofs.YtheknmeeioajfaaDoor.F Go.Proofs.YtheknmeeioajfaaDoorW.PrintWords Go.Proofs.YtheknmeeioajfaaDoorW.PrintMore
/-- One bit of the reference's long division. -/
theorem refDiv_core {c q r t : Int} (hi lo i : Int) {R : Int × Int × Int} (c0 : 0 < c) (c1 : c < 18446744073709551616) (r0 : 0 ≤ r) (r1 : r < c) (q0 : 0 ≤ q) (ht : t = 0 ∨ t = 1)
    (hq : 2 * q + 1 < 340282366920938463463374607431768211456)
    (hge : 2 * r + t ≥ c → Ev (fun k => customsref01_DivMod.l0 k c (2 * r + t - c) i hi lo ((2 * q + 1) / 18446744073709551616) ((2 * q + 1) % 18446744073709551616)) R)
    (hlt : 2 * r + t < c → Ev (fun k => customsref01_DivMod.l0 k c (2 * r + t) i hi lo (2 * q / 18446744073709551616) (2 * q % 18446744073709551616)) R) :
    Ev (fun k => (customsref01_Add.f (q / 18446744073709551616) (q % 18446744073709551616) (q / 18446744073709551616) (q % 18446744073709551616)).bind fun bt127 => (if (r / 9223372036854775808) = 1 then (customsref01_DivMod.l0 k c (IntKind.u64.wrap ((Go.bits .or .u64 (IntKind.u64.wrap (r * 2)) t) - c)) i hi lo bt127.1 (Go.bits .or .u64 bt127.2.1 1)) else (if (Go.bits .or .u64 (IntKind.u64.wrap (r * 2)) t) ≥ c then (customsref01_DivMod.l0 k c (IntKind.u64.wrap ((Go.bits .or .u64 (IntKind.u64.wrap (r * 2)) t) - c)) i hi lo bt127.1 (Go.bits .or .u64 bt127.2.1 1)) else (customsref01_DivMod.l0 k c (Go.bits .or .u64 (IntKind.u64.wrap (r * 2)) t) i hi lo bt127.1 bt127.2.1)))) R := by
  rw [add_eq q0 q0 (by omega), show q + q = 2 * q by omega]
  refine ev_let ?_
  show Ev (fun k => if (r / 9223372036854775808) = 1 then (customsref01_DivMod.l0 k c (IntKind.u64.wrap ((Go.bits .or .u64 (IntKind.u64.wrap (r * 2)) t) - c)) i hi lo (2 * q / 18446744073709551616) (Go.bits .or .u64 (2 * q % 18446744073709551616) 1)) else (if (Go.bits .or .u64 (IntKind.u64.wrap (r * 2)) t) ≥ c then (customsref01_DivMod.l0 k c (IntKind.u64.wrap ((Go.bits .or .u64 (IntKind.u64.wrap (r * 2)) t) - c)) i hi lo (2 * q / 18446744073709551616) (Go.bits .or .u64 (2 * q % 18446744073709551616) 1)) else (customsref01_DivMod.l0 k c (Go.bits .or .u64 (IntKind.u64.wrap (r * 2)) t) i hi lo (2 * q / 18446744073709551616) (2 * q % 18446744073709551616)))) R
  have ho : bits .or .u64 (IntKind.u64.wrap (r * 2)) t = (r * 2) % 18446744073709551616 + t := by
    rw [u64m]
    exact or_join 1 (by decide) (by omega) (by rw [show (2 : Int) ^ 1 = 2 from rfl]; omega) (by omega) (by omega) (by rw [show (2 : Int) ^ 1 = 2 from rfl]; omega)
  rw [ho, or_one (by omega) (by omega) (by omega), show 2 * q / 18446744073709551616 = (2 * q + 1) / 18446744073709551616 by omega, show 2 * q % 18446744073709551616 + 1 = (2 * q + 1) % 18446744073709551616 by omega]
  by_cases hr : r / 9223372036854775808 = 1
  · refine ev_pos hr ?_
    rw [show IntKind.u64.wrap (r * 2 % 18446744073709551616 + t - c) = 2 * r + t - c by rw [u64m]; omega]
    exact hge (by omega)
  · refine ev_neg hr ?_
    rw [show r * 2 % 18446744073709551616 + t = 2 * r + t by omega]
    refine ev_ite (fun h => ?_) (fun h => ?_)
    · rw [u64w (by omega) (by omega)]
      exact hge h
    · rw [show (2 * q + 1) / 18446744073709551616 = 2 * q / 18446744073709551616 by omega]
      exact hlt (by omega)
theorem half_bit (N j : Nat) (hj : j < 64) : N % 18446744073709551616 / 2 ^ j % 2 = N / 2 ^ j % 2 := by
  have h1 : N % 18446744073709551616 = N % (2 ^ j * 2 ^ (64 - j)) := by rw [← Nat.pow_add, show j + (64 - j) = 64 by omega]
  rw [h1, Nat.mod_mul_right_div_self, Nat.mod_mod_of_dvd]
  exact ⟨2 ^ (63 - j), by rw [show 64 - j = 63 - j + 1 by omega, Nat.pow_succ, Nat.mul_comm]⟩
theorem high_bit (N j : Nat) (hj : 64 ≤ j) : N / 18446744073709551616 / 2 ^ (j - 64) = N / 2 ^ j := by
  rw [show (18446744073709551616 : Nat) = 2 ^ 64 from rfl, Nat.div_div_eq_div_mul, ← Nat.pow_add, show 64 + (j - 64) = j by omega]
theorem refDivMod_l (N : Nat) (c : Int) (hN : N < 340282366920938463463374607431768211456) (c0 : 0 < c) (c1 : c < 18446744073709551616) (j : Nat) : j ≤ 128 → ∀ q r : Int, q * c + r = ((N / 2 ^ j : Nat) : Int) → 0 ≤ r → r < c → 0 ≤ q →
    Ev (fun k => customsref01_DivMod.l0 k c r ((j : Int) - 1) ((N / 18446744073709551616 : Nat) : Int) ((N % 18446744073709551616 : Nat) : Int) (q / 18446744073709551616) (q % 18446744073709551616)) ((N : Int) / c / 18446744073709551616, (N : Int) / c % 18446744073709551616, (N : Int) % c) := by
  induction j with
  | zero =>
    intro _ q r h r0 r1 q0
    rw [Nat.pow_zero, Nat.div_one] at h
    have e1 : (N : Int) / c = q := by
      rw [← h, Int.mul_comm, Int.mul_add_ediv_left _ _ (by omega), Int.ediv_eq_zero_of_lt r0 r1, Int.add_zero]
    have e2 : (N : Int) % c = r := by
      rw [← h, Int.mul_comm, Int.mul_add_emod_self_left, Int.emod_eq_of_lt r0 r1]
    refine Ev.step (fun k => by rw [customsref01_DivMod.l0]) (ev_neg (by omega) ?_)
    rw [e1, e2]
    exact Ev.now _
  | succ j ih =>
    intro hj q r h r0 r1 q0
    have hd := div_two_pow N j
    have hNj : N / 2 ^ j ≤ N := Nat.div_le_self _ _
    have hgc : ∀ p : Int, 0 ≤ p → p ≤ p * c := fun p hp => by
      have := Int.mul_le_mul_of_nonneg_left (show 1 ≤ c by omega) hp
      rw [Int.mul_one] at this
      exact this
    have hqc := hgc q q0
    have hbit : N / 2 ^ j % 2 = 0 ∨ N / 2 ^ j % 2 = 1 := Nat.mod_two_eq_zero_or_one _
    have hcore : ∀ i hi lo : Int, i = (j : Int) - 1 → hi = ((N / 18446744073709551616 : Nat) : Int) → lo = ((N % 18446744073709551616 : Nat) : Int) → _ := fun i hi lo e1 e2 e3 =>
      refDiv_core (c := c) (q := q) (r := r) (t := ((N / 2 ^ j % 2 : Nat) : Int)) hi lo i (R := ((N : Int) / c / 18446744073709551616, (N : Int) / c % 18446744073709551616, (N : Int) % c)) c0 c1 r0 r1 q0 (by omega)
        (by omega)
        (fun hge => by rw [e1, e2, e3]; exact ih (by omega) (2 * q + 1) _ (by rw [Int.add_mul, Int.one_mul, Int.mul_assoc]; omega) (by omega) (by omega) (by omega))
        (fun hlt => by rw [e1, e2, e3]; exact ih (by omega) (2 * q) _ (by rw [Int.mul_assoc]; omega) (by omega) hlt (by omega))
    refine Ev.step (fun k => by rw [customsref01_DivMod.l0]) (ev_pos (by omega) ?_)
    rw [show (((j + 1 : Nat) : Int) - 1) = (j : Int) by omega, and_63 (by omega) (by omega), w64 (x := (j : Int) - 1) (by omega) (by omega)]
    refine ev_pos (by omega) (ev_ite (fun hj64 => ?_) (fun hj64 => ?_))
    · rw [w64 (x := (j : Int) - 64) (by omega) (by omega)]
      refine ev_pos (by omega) ?_
      rw [show (j : Int) - 64 = ((j - 64 : Nat) : Int) by omega, shr_bit (by omega) (by omega), high_bit N j (by omega)]
      exact hcore _ _ _ rfl rfl rfl
    · rw [show (j : Int) % 64 = (j : Int) by omega, shr_bit (by omega) (by omega), half_bit N j (by omega)]
      exact hcore _ _ _ rfl rfl rfl
theorem refDivMod_ev (N : Nat) (c : Int) (hN : N < 340282366920938463463374607431768211456) (c0 : 0 < c) (c1 : c < 18446744073709551616) :
    Ev (fun k => customsref01_DivMod.f k ((N : Int) / 18446744073709551616) ((N : Int) % 18446744073709551616) c) ((N : Int) / c / 18446744073709551616, (N : Int) / c % 18446744073709551616, (N : Int) % c) := by
  have h := refDivMod_l N c hN c0 c1 128 (Nat.le_refl _) 0 0 (by rw [Nat.div_eq_of_lt (by simpa using hN)]; omega) (by omega) c0 (by omega)
  exact h
theorem refDiv_ev (N : Nat) (c m : Int) (hN : N < 170141183460469231731687303715884105728) (c0 : 0 ≤ c) (c1 : c < 18446744073709551616) :
    Ev (fun k => customsref01_Div.f k ((N : Int) / 18446744073709551616) ((N : Int) % 18446744073709551616) c m) (divS m (N : Int) c) := by
  unfold customsref01_Div.f
  have bad : c = 0 ∨ m < 0 ∨ m > 3 → Ev (fun k => customsref01_Div.j0 k c m true ((N : Int) / 18446744073709551616) ((N : Int) % 18446744073709551616)) (divS m (N : Int) c) := fun h => by
    unfold divS
    rw [if_pos h]
    exact Ev.step (fun k => by rw [customsref01_Div.j0]) (ev_pos rfl (Ev.now _))
  refine ev_ite (fun h => bad (Or.inl h)) (fun hc => ev_ite (fun h => bad (Or.inr (Or.inl h))) (fun hm => ?_))
  by_cases h3 : m > 3
  · rw [decide_eq_true h3]; exact bad (Or.inr (Or.inr h3))
  · rw [decide_eq_false h3]
    have hq0 : 0 ≤ (N : Int) / c := Int.ediv_nonneg (by omega) (by omega)
    have hq1 : (N : Int) / c ≤ N := Int.ediv_le_self _ (by omega)
    have hm0 := Int.emod_nonneg (N : Int) (show c ≠ 0 by omega)
    have hm1 := Int.emod_lt_of_pos (N : Int) (show 0 < c by omega)
    have fin : ∀ b : Bool, b = up m ((N : Int) / c) ((N : Int) % c) c → Ev (fun k => customsref01_Div.j1 k b ((N : Int) / c / 18446744073709551616) ((N : Int) / c % 18446744073709551616)) (divS m (N : Int) c) := fun b hb => by
      unfold divS rnd
      rw [if_neg (by omega), ← hb]
      generalize (N : Int) / c = Q at hq0 hq1 ⊢
      refine Ev.step (fun k => by rw [customsref01_Div.j1]) (ev_ite (fun h => ?_) (fun h => ?_))
      · have ha := add_eq (A := Q) (B := 1) hq0 (by omega) (by omega)
        rw [show (1 : Int) / 18446744073709551616 = 0 by omega, show (1 : Int) % 18446744073709551616 = 1 by omega] at ha
        rw [ha, if_pos h]
        refine ev_let (ev_ite (fun hg => ?_) (fun hg => ?_))
        · have hg' : (Q + 1) / 18446744073709551616 > 0 := hg
          rw [if_pos (by omega)]; exact Ev.now _
        · have hg' : ¬ (Q + 1) / 18446744073709551616 > 0 := hg
          rw [if_neg (by omega)]
          refine ev_eq (Ev.now _) ?_
          show ((Q + 1) % 18446744073709551616, (0 : Int)) = _
          rw [show (Q + 1) % 18446744073709551616 = Q + 1 by omega]
      · rw [if_neg h]
        refine ev_ite (fun hg => ?_) (fun hg => ?_)
        · rw [if_pos (by omega)]; exact Ev.now _
        · rw [if_neg (by omega), Int.add_zero, show Q % 18446744073709551616 = Q by omega]; exact Ev.now _
    refine Ev.step (fun k => by rw [customsref01_Div.j0]) (ev_neg (by decide) (ev_bind (refDivMod_ev N c (by omega) (by omega) c1) ?_))
    show Ev (fun k => if m = 1 then (customsref01_Div.j1 k (decide ((N : Int) % c > 0)) ((N : Int) / c / 18446744073709551616) ((N : Int) / c % 18446744073709551616)) else (if m = 2 then (customsref01_Div.j1 k (decide ((N : Int) % c ≥ (IntKind.u64.wrap (c - (N : Int) % c)))) ((N : Int) / c / 18446744073709551616) ((N : Int) / c % 18446744073709551616)) else (if m = 3 then (if (N : Int) % c > (IntKind.u64.wrap (c - (N : Int) % c)) then (customsref01_Div.j1 k true ((N : Int) / c / 18446744073709551616) ((N : Int) / c % 18446744073709551616)) else (if (N : Int) % c = (IntKind.u64.wrap (c - (N : Int) % c)) then (customsref01_Div.j1 k ((Go.bits .and .u64 ((N : Int) / c % 18446744073709551616) 1) == 1) ((N : Int) / c / 18446744073709551616) ((N : Int) / c % 18446744073709551616)) else (customsref01_Div.j1 k false ((N : Int) / c / 18446744073709551616) ((N : Int) / c % 18446744073709551616)))) else (customsref01_Div.j1 k false ((N : Int) / c / 18446744073709551616) ((N : Int) / c % 18446744073709551616))))) _
    rw [u64w (x := c - (N : Int) % c) (by omega) (by omega), and_one (by omega) (by omega), show (N : Int) / c % 18446744073709551616 % 2 = (N : Int) / c % 2 by omega]
    refine ev_ite (fun m1 => fin _ (by unfold up; rw [if_pos m1])) (fun m1 => ev_ite (fun m2 => fin _ (by unfold up; rw [if_neg m1, if_pos m2])) (fun m2 => ev_ite (fun m3 => ev_ite (fun g => fin _ (by unfold up; rw [if_neg m1, if_neg m2, if_pos m3, if_pos g])) (fun g => ev_ite (fun g2 => fin _ (by unfold up; rw [if_neg m1, if_neg m2, if_pos m3, if_neg g, if_pos g2]; rfl)) (fun g2 => fin _ (by unfold up; rw [if_neg m1, if_neg m2, if_pos m3, if_neg g, if_neg g2])))) (fun m3 => fin _ (by unfold up; rw [if_neg m1, if_neg m2, if_neg m3]))))
theorem refMulDiv_ev (a b c m : Int) (a0 : 0 ≤ a) (a1 : a ≤ 1000000000000) (b0 : 0 ≤ b) (b1 : b ≤ 1000000000000) (c0 : 0 ≤ c) (c1 : c < 18446744073709551616) :
    Ev (fun k => customsref01_MulDiv.f k a b c m) (divS m (a * b) c) := by
  obtain ⟨x, rfl⟩ := Int.eq_ofNat_of_zero_le a0
  obtain ⟨y, rfl⟩ := Int.eq_ofNat_of_zero_le b0
  unfold customsref01_MulDiv.f
  refine ev_bind (refMul_ev x y (by omega) (by omega)) ?_
  have hxy : x * y ≤ 1000000000000 * 1000000000000 := Nat.mul_le_mul (by omega) (by omega)
  have h := refDiv_ev (x * y) c m (by omega) c0 c1
  rw [Int.natCast_mul] at h ⊢
  exact ev_bind h (Ev.now _)
end Go.Proofs.YtheknmeeioajfaaDoor.D
namespace Go.Proofs.YtheknmeeioajfaaDoor.D
set_option linter.unusedVariables false
set_option linter.unusedSimpArgs false
open Go.RowKit Go.Proofs.YtheknmeeioajfaaDoor.F Go.Proofs.YtheknmeeioajfaaDoorW.PrintWords Go.Proofs.YtheknmeeioajfaaDoorW.PrintMore
def scOk (a n d m : Int) : Prop := amt a ∧ 0 ≤ n ∧ n ≤ 1000000000000 ∧ 1 ≤ d ∧ d ≤ 1000000000000 ∧ 0 ≤ m ∧ m ≤ 3
instance (a n d m : Int) : Decidable (scOk a n d m) := by unfold scOk; infer_instance
def scaleS (a n d m : Int) : Int × Int :=
  if scOk a n d m then (if rnd m ((a.natAbs : Int) * n) d > 1000000000000 then (0, 3) else (if a < 0 then -rnd m ((a.natAbs : Int) * n) d else rnd m ((a.natAbs : Int) * n) d, 0)) else (0, 2)
theorem rnd_nonneg {m N c : Int} (h0 : 0 ≤ N) (hc : 0 < c) : 0 ≤ rnd m N c := by
  have := Int.ediv_nonneg h0 (Int.le_of_lt hc)
  have := (@rnd_ge m N c).1
  omega
theorem size_eq {a : Int} (h : amt a) : IntKind.u64.wrap (mx a (wrap64 (-a))) = (a.natAbs : Int) := by
  unfold amt at h
  rw [w64 (by omega) (by omega)]
  unfold mx
  split
  · rw [u64w (by omega) (by omega)]; omega
  · rw [u64w (by omega) (by omega)]; omega
theorem scale_ev (a n d m : Int) : Ev (fun k => money_Scale.f k a n d m) (scaleS a n d m) := by
  unfold money_Scale.f
  refine ev_bind (amounts_ev [a, n, d] (by simp)) ?_
  have bad : ¬ scOk a n d m → Ev (fun k => money_Scale.j0 k a n d m true) (scaleS a n d m) := fun h => by
    unfold scaleS
    rw [if_neg h]
    exact Ev.step (fun k => by rw [money_Scale.j0]) (ev_pos rfl (Ev.now _))
  by_cases hall : amt a ∧ amt n ∧ amt d
  · refine ev_pos (by simp [hall]) (ev_ite (fun h => bad (fun k => by unfold scOk at k; omega)) (fun hn => ev_ite (fun h => bad (fun k => by unfold scOk at k; omega)) (fun hd => ev_ite (fun h => bad (fun k => by unfold scOk at k; omega)) (fun hm => ?_))))
    by_cases h3 : m > 3
    · rw [decide_eq_true h3]; exact bad (fun k => by unfold scOk at k; omega)
    · rw [decide_eq_false h3]
      have ha := hall.1
      have hn' := hall.2.1
      have hd' := hall.2.2
      unfold amt at hn' hd'
      have hok : scOk a n d m := ⟨ha, by omega, by omega, by omega, by omega, by omega, by omega⟩
      refine Ev.step (fun k => by rw [money_Scale.j0]) (ev_neg (by decide) ?_)
      rw [size_eq ha, u64w (x := n) (by omega) (by omega), u64w (x := d) (by omega) (by omega)]
      unfold amt at ha
      refine ev_bind (exactMulDiv_ev _ n d m (by omega) (by omega) (by omega) (by omega) (by omega) (by omega)) ?_
      unfold scaleS divS
      rw [if_pos hok, if_neg (by omega)]
      have hr0 := @rnd_nonneg m ((a.natAbs : Int) * n) d (Int.mul_nonneg (by omega) (by omega)) (by omega)
      generalize rnd m ((a.natAbs : Int) * n) d = R at hr0
      have over : R > 1000000000000 → Ev (fun k => money_Scale.j1 k a 0 true) ((if R > 1000000000000 then (0, 3) else (if a < 0 then -R else R, 0)) : Int × Int) := fun h => by
        rw [if_pos h]
        exact Ev.step (fun k => by rw [money_Scale.j1]) (ev_pos rfl (Ev.now _))
      by_cases hbig : R ≥ 18446744073709551616
      · rw [if_pos hbig]
        exact ev_neg (by decide) (over (by omega))
      · rw [if_neg hbig]
        refine ev_pos rfl ?_
        show Ev (fun k => money_Scale.j1 k a R (decide (R > 1000000000000))) _
        by_cases hR : R > 1000000000000
        · rw [decide_eq_true hR, if_pos hR]
          exact Ev.step (fun k => by rw [money_Scale.j1]) (ev_pos rfl (Ev.now _))
        · rw [decide_eq_false hR, if_neg hR]
          refine Ev.step (fun k => by rw [money_Scale.j1]) (ev_neg (by decide) ?_)
          rw [w64 (x := R) (by omega) (by omega), w64 (x := -R) (by omega) (by omega)]
          refine ev_ite (fun h => ?_) (fun h => ?_)
          · rw [if_pos h]; exact Ev.now _
          · rw [if_neg h]; exact Ev.now _
  · refine ev_neg (by simp; exact fun h1 h2 h3 => hall ⟨h1, h2, h3⟩) (bad (fun k => hall ?_))
    unfold scOk at k
    unfold amt
    unfold amt at k
    omega
theorem refScale_ev (a n d m : Int) : Ev (fun k => customsref02_Scale.f k a n d m) (scaleS a n d m) := by
  unfold customsref02_Scale.f
  rw [amount_ref]
  refine ev_let ?_
  have bad : ¬ scOk a n d m → Ev (fun k => customsref02_Scale.j0 k a n d m true) (scaleS a n d m) := fun h => by
    unfold scaleS
    rw [if_neg h]
    exact Ev.step (fun k => by rw [customsref02_Scale.j0]) (ev_pos rfl (Ev.now _))
  refine ev_ite (fun ha => ?_) (fun ha => bad (fun k => ha (decide_eq_true k.1)))
  have ha := of_decide_eq_true ha
  refine ev_ite (fun h => bad (fun k => by unfold scOk at k; omega)) (fun hn => ev_ite (fun h => bad (fun k => by unfold scOk at k; omega)) (fun hn2 => ev_ite (fun h => bad (fun k => by unfold scOk at k; omega)) (fun hd => ev_ite (fun h => bad (fun k => by unfold scOk at k; omega)) (fun hd2 => ev_ite (fun h => bad (fun k => by unfold scOk at k; omega)) (fun hm => ?_)))))
  by_cases h3 : m > 3
  · rw [decide_eq_true h3]; exact bad (fun k => by unfold scOk at k; omega)
  · rw [decide_eq_false h3]
    have hok : scOk a n d m := ⟨ha, by omega, by omega, by omega, by omega, by omega, by omega⟩
    refine Ev.step (fun k => by rw [customsref02_Scale.j0]) (ev_neg (by decide) ?_)
    rw [size_eq ha, u64w (x := n) (by omega) (by omega), u64w (x := d) (by omega) (by omega)]
    unfold amt at ha
    refine ev_bind (refMulDiv_ev _ n d m (by omega) (by omega) (by omega) (by omega) (by omega) (by omega)) ?_
    unfold scaleS divS
    rw [if_pos hok, if_neg (by omega)]
    have hr0 := @rnd_nonneg m ((a.natAbs : Int) * n) d (Int.mul_nonneg (by omega) (by omega)) (by omega)
    generalize rnd m ((a.natAbs : Int) * n) d = R at hr0
    have over : R > 1000000000000 → Ev (fun k => customsref02_Scale.j1 k a 0 true) ((if R > 1000000000000 then (0, 3) else (if a < 0 then -R else R, 0)) : Int × Int) := fun h => by
      rw [if_pos h]
      exact Ev.step (fun k => by rw [customsref02_Scale.j1]) (ev_pos rfl (Ev.now _))
    by_cases hbig : R ≥ 18446744073709551616
    · rw [if_pos hbig]
      exact ev_neg (by decide) (over (by omega))
    · rw [if_neg hbig]
      refine ev_pos rfl ?_
      show Ev (fun k => customsref02_Scale.j1 k a R (decide (R > 1000000000000))) _
      by_cases hR : R > 1000000000000
      · rw [decide_eq_true hR, if_pos hR]
        exact Ev.step (fun k => by rw [customsref02_Scale.j1]) (ev_pos rfl (Ev.now _))
      · rw [decide_eq_false hR, if_neg hR]
        refine Ev.step (fun k => by rw [customsref02_Scale.j1]) (ev_neg (by decide) ?_)
        rw [w64 (x := R) (by omega) (by omega), w64 (x := -R) (by omega) (by omega)]
        refine ev_ite (fun h => ?_) (fun h => ?_)
        · rw [if_pos h]; exact Ev.now _
        · rw [if_neg h]; exact Ev.now _
def partS (a r m : Int) : Int × Int := if r < 0 ∨ r > 10000000 then (0, 2) else scaleS a r 1000000 m
theorem part_ev (a r m : Int) : Ev (fun k => money_Part.f k a r m) (partS a r m) := by
  unfold money_Part.f partS
  refine ev_ite (fun h => ?_) (fun h => ev_ite (fun h2 => ?_) (fun h2 => ?_))
  · rw [if_pos (Or.inl h)]; exact Ev.now _
  · rw [if_pos (Or.inr h2)]; exact Ev.now _
  · rw [if_neg (by omega)]; exact ev_bind (scale_ev _ _ _ _) (Ev.now _)
theorem refPart_ev (a r m : Int) : Ev (fun k => customsref02_Part.f k a r m) (partS a r m) := by
  unfold customsref02_Part.f partS
  refine ev_ite (fun h => ?_) (fun h => ev_ite (fun h2 => ?_) (fun h2 => ?_))
  · rw [if_pos (Or.inl h)]; exact Ev.now _
  · rw [if_pos (Or.inr h2)]; exact Ev.now _
  · rw [if_neg (by omega)]; exact ev_bind (refScale_ev _ _ _ _) (Ev.now _)
end Go.Proofs.YtheknmeeioajfaaDoor.D
