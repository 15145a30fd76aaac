/- Plain facts on the models: what they compute, and what holds of them; conditions: what each theorem states. -/
import Derived.Test.YtojcnkhcdcegkaaDoorMekoia
set_option linter.unusedVariables false
set_option linter.unusedSimpArgs false
namespace Go.Pu
open Go Go.Sl
theorem qs {x : Int} (h0 : -9223372036854775808 ≤ x) (h1 : x < 9223372036854775808) : qg x = x := by
  show (if (true && decide (x % 18446744073709551616 ≥ 9223372036854775808)) = true then x % 18446744073709551616 - 18446744073709551616 else x % 18446744073709551616) = x
  split <;> rename_i h <;> simp at h <;> omega
theorem L5 (x : Int) : wr .u64 x = x % 18446744073709551616 := by
  simp [wr, IntKind.wrap, IntKind.bits, IntKind.signed]
theorem L4 (x : Int) : wr .u32 x = x % 4294967296 := by
  simp [wr, IntKind.wrap, IntKind.bits, IntKind.signed]
theorem Lr (x : Int) : wr .u8 x = x % 256 := by
  simp [wr, IntKind.wrap, IntKind.bits, IntKind.signed]
theorem ze {x : Int} (h0 : 0 ≤ x) (h1 : x < 18446744073709551616) : wr .u64 x = x := by rw [L5]; omega
theorem zb {x : Int} (h0 : 0 ≤ x) (h1 : x < 4294967296) : wr .u32 x = x := by rw [L4]; omega
theorem zB {x : Int} (h0 : 0 ≤ x) (h1 : x < 256) : wr .u8 x = x := by rw [Lr]; omega
theorem zg {x : Int} (h0 : -9223372036854775808 ≤ x) (h1 : x < 9223372036854775808) : wr .i64 x = x := qs h0 h1
theorem yU (n a : Nat) : BitVec.ofInt n (a : Int) = BitVec.ofNat n a := by
  apply BitVec.eq_of_toNat_eq
  simp
theorem X8 {a b : Nat} (ha : a < 18446744073709551616) (hb : b < 18446744073709551616) : xH .u64 a b = ((a &&& b : Nat) : Int) := by
  show IntKind.u64.wrap ((BitVec.ofInt 64 (a : Int) &&& BitVec.ofInt 64 (b : Int)).toNat : Int) = _
  simp only [yU, BitVec.toNat_and, BitVec.toNat_ofNat]
  rw [Nat.mod_eq_of_lt (by simpa using ha), Nat.mod_eq_of_lt (by simpa using hb)]
  have : a &&& b ≤ a := Nat.and_le_left
  exact ze (by omega) (by omega)
theorem X7 {a b : Nat} (ha : a < 9223372036854775808) (hb : b < 9223372036854775808) : xH .i64 a b = ((a &&& b : Nat) : Int) := by
  show IntKind.i64.wrap ((BitVec.ofInt 64 (a : Int) &&& BitVec.ofInt 64 (b : Int)).toNat : Int) = _
  simp only [yU, BitVec.toNat_and, BitVec.toNat_ofNat]
  rw [Nat.mod_eq_of_lt (by omega), Nat.mod_eq_of_lt (by omega)]
  have : a &&& b ≤ a := Nat.and_le_left
  exact qs (by omega) (by omega)
theorem U7 {a b : Nat} (ha : a < 18446744073709551616) (hb : b < 18446744073709551616) : QS .u64 a b = ((a ||| b : Nat) : Int) := by
  show IntKind.u64.wrap ((BitVec.ofInt 64 (a : Int) ||| BitVec.ofInt 64 (b : Int)).toNat : Int) = _
  simp only [yU, BitVec.toNat_or, BitVec.toNat_ofNat]
  rw [Nat.mod_eq_of_lt (by simpa using ha), Nat.mod_eq_of_lt (by simpa using hb)]
  have : a ||| b < 2 ^ 64 := Nat.or_lt_two_pow (by simpa using ha) (by simpa using hb)
  exact ze (by omega) (by omega)
theorem U6 {a b : Nat} (ha : a < 9223372036854775808) (hb : b < 9223372036854775808) : QS .i64 a b = ((a ||| b : Nat) : Int) := by
  show IntKind.i64.wrap ((BitVec.ofInt 64 (a : Int) ||| BitVec.ofInt 64 (b : Int)).toNat : Int) = _
  simp only [yU, BitVec.toNat_or, BitVec.toNat_ofNat]
  rw [Nat.mod_eq_of_lt (by omega), Nat.mod_eq_of_lt (by omega)]
  have : a ||| b < 2 ^ 63 := Nat.or_lt_two_pow (by simpa using ha) (by simpa using hb)
  exact qs (by omega) (by omega)
theorem BE {a b : Nat} (ha : a < 9223372036854775808) (hb : b < 9223372036854775808) : ub .i64 a b = ((a ^^^ b : Nat) : Int) := by
  show IntKind.i64.wrap ((BitVec.ofInt 64 (a : Int) ^^^ BitVec.ofInt 64 (b : Int)).toNat : Int) = _
  simp only [yU, BitVec.toNat_xor, BitVec.toNat_ofNat]
  rw [Nat.mod_eq_of_lt (by omega), Nat.mod_eq_of_lt (by omega)]
  have : a ^^^ b < 2 ^ 63 := Nat.xor_lt_two_pow (by simpa using ha) (by simpa using hb)
  exact qs (by omega) (by omega)
theorem Zs {a b : Nat} (ha : a < 9223372036854775808) (hb : b < 9223372036854775808) : yb .i64 (a : Int) (b : Int) = ((a / b : Nat) : Int) := by
  unfold yb
  have h1 : (a : Int).tdiv (b : Int) = ((a / b : Nat) : Int) := by rw [Int.ofNat_tdiv]
  rw [h1]
  have h2 : a / b ≤ a := Nat.div_le_self _ _
  generalize a / b = q at h2 ⊢
  exact qs (by omega) (by omega)
theorem Yb {a b : Nat} : vV (a : Int) (b : Int) = ((a % b : Nat) : Int) := by
  unfold vV
  rw [Int.ofNat_tmod]
theorem yt {k : IntKind} {a n : Nat} (hn : n ≤ k.bits) : xb k (a : Int) (n : Int) = ((a / 2 ^ n : Nat) : Int) := by
  unfold xb
  rw [Int.toNat_natCast, Nat.min_eq_left hn, Int.fdiv_eq_ediv_of_nonneg _ (Int.pow_nonneg (by decide))]
  simp
theorem Yc {a n : Nat} (hn : n ≤ 64) (h : a * 2 ^ n < 18446744073709551616) : z8 .u64 (a : Int) (n : Int) = ((a * 2 ^ n : Nat) : Int) := by
  unfold z8
  rw [Int.toNat_natCast, show min n IntKind.u64.bits = n from Nat.min_eq_left hn]
  have e : (a : Int) * 2 ^ n = ((a * 2 ^ n : Nat) : Int) := by push_cast; rfl
  rw [e]
  exact ze (by omega) (by omega)
theorem jP {a n : Nat} (hn : n ≤ 64) (h : a * 2 ^ n < 9223372036854775808) : z8 .i64 (a : Int) (n : Int) = ((a * 2 ^ n : Nat) : Int) := by
  unfold z8
  rw [Int.toNat_natCast, show min n IntKind.i64.bits = n from Nat.min_eq_left hn]
  have e : (a : Int) * 2 ^ n = ((a * 2 ^ n : Nat) : Int) := by push_cast; rfl
  rw [e]
  exact qs (by omega) (by omega)
theorem Vs {a n : Nat} (hn : n ≤ 32) (h : a * 2 ^ n < 4294967296) : z8 .u32 (a : Int) (n : Int) = ((a * 2 ^ n : Nat) : Int) := by
  unfold z8
  rw [Int.toNat_natCast, show min n IntKind.u32.bits = n from Nat.min_eq_left hn]
  have e : (a : Int) * 2 ^ n = ((a * 2 ^ n : Nat) : Int) := by push_cast; rfl
  rw [e]
  exact zb (by omega) (by omega)
end Go.Pu

namespace Go.Pu
open Go Go.Sl Go.Mo
def jJ (t : List UInt8) (i : Nat) : Bool := (t.getD (i / 8) 0).toNat.testBit (i % 8)
def Qk (t : List UInt8) (p : Nat) : Nat → Nat
  | 0 => 0
  | n + 1 => Qk t p n + (jJ t (p + n)).toNat * 2 ^ n
theorem Qx (t : List UInt8) (p : Nat) : ∀ n, Qk t p n < 2 ^ n
  | 0 => by simp [Qk]
  | n + 1 => by
    have := Qx t p n
    have h2 : (jJ t (p + n)).toNat ≤ 1 := by cases jJ t (p + n) <;> simp
    have h3 : (jJ t (p + n)).toNat * 2 ^ n ≤ 2 ^ n := by
      calc _ ≤ 1 * 2 ^ n := Nat.mul_le_mul_right _ h2
        _ = 2 ^ n := Nat.one_mul _
    rw [Qk, Nat.pow_succ]; omega
theorem Qy (t : List UInt8) (p : Nat) : ∀ n j, (Qk t p n).testBit j = (decide (j < n) && jJ t (p + j))
  | 0, j => by simp [Qk]
  | n + 1, j => by
    have hlt := Qx t p n
    have e : Qk t p (n + 1) = 2 ^ n * (jJ t (p + n)).toNat + Qk t p n := by rw [Qk, Nat.mul_comm]; omega
    rw [e, Nat.testBit_two_pow_mul_add _ hlt]
    split
    · rename_i h
      rw [Qy t p n j]
      have : j < n + 1 := by omega
      simp [h, this]
    · rename_i h
      by_cases hj : j = n
      · subst hj; simp
        cases jJ t (p + j) <;> simp
      · have h1 : ¬ j < n + 1 := by omega
        simp [h1]
        cases hb : jJ t (p + n)
        · simp
        · have : (1 : Nat) < 2 ^ (j - n) := Nat.one_lt_two_pow (by omega)
          simpa using Nat.testBit_lt_two_pow this
def xy (t : List UInt8) (p n : Nat) : Except Int (Nat × Nat) := if p + n ≤ 8 * t.length then .ok (Qk t p n, p + n) else .error 2
end Go.Pu

namespace Go.Pu
open Go Go.Sl Go.Mo
theorem BT (t : List UInt8) (f i : Nat) : Qk t (8 * f) (8 * (i + 1)) = Qk t (8 * f) (8 * i) ||| ((t.getD (f + i) 0).toNat * 2 ^ (8 * i)) := by
  apply Nat.eq_of_testBit_eq
  intro j
  rw [Nat.testBit_or, Qy, Qy, Nat.testBit_mul_two_pow]
  have hb : ∀ k, k < 8 → jJ t (8 * (f + i) + k) = (t.getD (f + i) 0).toNat.testBit k := fun k hk => by
    unfold jJ
    rw [show (8 * (f + i) + k) / 8 = f + i by omega, show (8 * (f + i) + k) % 8 = k by omega]
  have hz : ∀ k, 8 ≤ k → (t.getD (f + i) 0).toNat.testBit k = false := fun k hk => by
    refine Nat.testBit_lt_two_pow ?_
    have := (t.getD (f + i) 0).toNat_lt
    have h2 : 2 ^ 8 ≤ 2 ^ k := Nat.pow_le_pow_right (by decide) hk
    omega
  by_cases h1 : j < 8 * i
  · have h2 : j < 8 * (i + 1) := by omega
    have h3 : ¬ 8 * i ≤ j := by omega
    simp [h1, h2, h3]
  · by_cases h2 : j < 8 * (i + 1)
    · have h3 : 8 * i ≤ j := by omega
      simp only [h1, h2, h3, decide_true, decide_false, Bool.true_and, Bool.false_and, Bool.false_or]
      rw [← hb (j - 8 * i) (by omega)]
      congr 1; omega
    · have h3 : 8 * i ≤ j := by omega
      simp only [h1, h2, h3, decide_true, decide_false, Bool.true_and, Bool.false_and, Bool.false_or]
      exact (hz _ (by omega)).symm
theorem Xh (K : Nat) (t : List UInt8) (p n m : Nat) (hm : m = (p + n + 7) / 8 - p / 8) (hn : n ≤ 32) (hp : p + n ≤ 8 * t.length) (hl : t.length < 140737488355328) : ∀ j k, j ≤ m → j < k →
    zI.l1 K ⟨⟨p⟩, t⟩ n ((p / 8 : Nat) : Int) k (Qk t (8 * (p / 8)) (8 * (m - j)) : Int) ((m - j : Nat) : Int) = zI.j2 K ⟨⟨p⟩, t⟩ n (Qk t (8 * (p / 8)) (8 * m) : Int)
  | _, 0, _, h => by omega
  | 0, k + 1, _, _ => by
    rw [zI.l1]
    simp only [Nat.sub_zero]
    have e1 : qg (((p / 8 : Nat) : Int) + (m : Int)) = ((p / 8 + m : Nat) : Int) := by rw [qs (by omega) (by omega)]; push_cast; rfl
    have e2 : qg (8 * ((p / 8 + m : Nat) : Int)) = ((8 * (p / 8 + m) : Nat) : Int) := by rw [qs (by omega) (by omega)]; push_cast; rfl
    have e3 : qg ((p : Int) + (n : Int)) = ((p + n : Nat) : Int) := by rw [qs (by omega) (by omega)]; push_cast; rfl
    simp only [e1, e2, e3]
    have h1 : decide (((8 * (p / 8 + m) : Nat) : Int) < ((p + n : Nat) : Int)) = false := by simp only [decide_eq_false_iff_not]; omega
    rw [h1, cond_false]
  | j + 1, k + 1, hj, hk => by
    rw [zI.l1]
    generalize hi : m - (j + 1) = i
    have him : i < m := by omega
    have e1 : qg (((p / 8 : Nat) : Int) + (i : Int)) = ((p / 8 + i : Nat) : Int) := by rw [qs (by omega) (by omega)]; push_cast; rfl
    have e2 : qg (8 * ((p / 8 + i : Nat) : Int)) = ((8 * (p / 8 + i) : Nat) : Int) := by rw [qs (by omega) (by omega)]; push_cast; rfl
    have e3 : qg ((p : Int) + (n : Int)) = ((p + n : Nat) : Int) := by rw [qs (by omega) (by omega)]; push_cast; rfl
    simp only [e1, e2, e3]
    have h1 : decide (((8 * (p / 8 + i) : Nat) : Int) < ((p + n : Nat) : Int)) = true := by simp only [decide_eq_true_eq]; omega
    have h2 : inb ((p / 8 + i : Nat) : Int) t.length = true := by simp only [inb, decide_eq_true_eq]; omega
    have e4 : qg (8 * (i : Int)) = ((8 * i : Nat) : Int) := by rw [qs (by omega) (by omega)]; push_cast; rfl
    have h3 : decide ((0 : Int) ≤ ((8 * i : Nat) : Int)) = true := decide_eq_true (Int.natCast_nonneg _)
    rw [h1, h2, e4, h3]
    simp only [cond_true, qf, qC]
    have hby : (rd t ((p / 8 + i : Nat) : Int)) = t.getD (p / 8 + i) 0 := by simp only [rd, Int.toNat_natCast]; rfl
    rw [hby]
    have hlt := (t.getD (p / 8 + i) 0).toNat_lt
    have h8 : 8 * i ≤ 32 := by omega
    have hpow : 2 ^ (8 * i) ≤ 2 ^ 32 := Nat.pow_le_pow_right (by decide) h8
    have hmul : (t.getD (p / 8 + i) 0).toNat * 2 ^ (8 * i) ≤ 255 * 2 ^ (8 * i) := Nat.mul_le_mul_right _ (by omega)
    have hnum := Qx t (8 * (p / 8)) (8 * i)
    rw [ze (x := ((t.getD (p / 8 + i) 0).toNat : Int)) (by omega) (by omega), Yc (by omega) (by omega), U7 (by omega) (by omega), ← BT]
    have e5 : qg ((i : Int) + 1) = ((i + 1 : Nat) : Int) := by rw [qs (by omega) (by omega)]; push_cast; rfl
    rw [e5]
    have := Xh K t p n m hm hn hp hl j k (by omega) (by omega)
    rw [show m - j = i + 1 by omega] at this
    exact this
theorem D3 (t : List UInt8) (p n m : Nat) (hm : p + n ≤ 8 * (p / 8 + m)) : (Qk t (8 * (p / 8)) (8 * m) / 2 ^ (p % 8)) % 2 ^ n = Qk t p n := by
  apply Nat.eq_of_testBit_eq
  intro j
  rw [Nat.testBit_mod_two_pow, Nat.testBit_div_two_pow, Qy, Qy]
  by_cases h1 : j < n
  · have h2 : j + p % 8 < 8 * m := by omega
    simp only [h1, h2, decide_true, Bool.true_and]
    congr 1; omega
  · simp [h1]
theorem VK (K : Nat) (t : List UInt8) (p n : Nat) (hn : n ≤ 32) (hp : p ≤ 8 * t.length) (hl : t.length < 140737488355328) (hK : 32 < K) :
    zI.m K ⟨⟨p⟩, t⟩ n = match xy t p n with
      | .ok (v, q) => .ok ((v : Int), 0, (q : Int))
      | .error e => .ok (0, e, (p : Int)) := by
  unfold zI.m xy
  have h1 : (decide ((n : Int) < 0) || decide ((n : Int) > 32)) = false := by simp; omega
  simp only [qC]
  rw [h1, cond_false]
  have e1 : qg (8 * (t.length : Int)) = ((8 * t.length : Nat) : Int) := by rw [qs (by omega) (by omega)]; push_cast; rfl
  have e2 : qg (((8 * t.length : Nat) : Int) - (p : Int)) = ((8 * t.length - p : Nat) : Int) := by rw [qs (by omega) (by omega)]; omega
  simp only [e1, e2]
  by_cases hc : p + n ≤ 8 * t.length
  · have h2 : decide ((n : Int) > ((8 * t.length - p : Nat) : Int)) = false := by simp only [decide_eq_false_iff_not]; omega
    rw [h2, cond_false, if_pos hc]
    have e3 : yb .i64 (p : Int) 8 = ((p / 8 : Nat) : Int) := Zs (b := 8) (by omega) (by omega)
    rw [e3]
    have := Xh K t p n _ rfl hn hc hl ((p + n + 7) / 8 - p / 8) K (Nat.le_refl _) (by omega)
    rw [Nat.sub_self] at this
    refine this.trans ?_
    unfold zI.j2
    have e4 : xH .i64 (p : Int) 7 = ((p % 8 : Nat) : Int) := by
      rw [show (7 : Int) = ((7 : Nat) : Int) from rfl, X7 (by omega) (by omega), show (7 : Nat) = 2 ^ 3 - 1 from rfl, Nat.and_two_pow_sub_one_eq_mod]
    simp only [e4, qC]
    have h3 : decide ((0 : Int) ≤ ((p % 8 : Nat) : Int)) = true := decide_eq_true (Int.natCast_nonneg _)
    have h4 : decide ((0 : Int) ≤ ((n : Nat) : Int)) = true := decide_eq_true (Int.natCast_nonneg _)
    rw [h3, h4]
    simp only [qf]
    have hcut := D3 t p n ((p + n + 7) / 8 - p / 8) (by omega)
    generalize hm : (p + n + 7) / 8 - p / 8 = m at hcut ⊢
    have hbig := Qx t (8 * (p / 8)) (8 * m)
    have hpow : 2 ^ (8 * m) ≤ 2 ^ 40 := Nat.pow_le_pow_right (by decide) (by omega)
    rw [yt (k := .u64) (n := p % 8) (by show _ ≤ 64; omega)]
    have hq : Qk t (8 * (p / 8)) (8 * m) / 2 ^ (p % 8) ≤ Qk t (8 * (p / 8)) (8 * m) := Nat.div_le_self _ _
    generalize Qk t (8 * (p / 8)) (8 * m) / 2 ^ (p % 8) = q at hcut hq ⊢
    have hn2 : 2 ^ n ≤ 2 ^ 32 := Nat.pow_le_pow_right (by decide) hn
    have hn0 : 0 < 2 ^ n := Nat.two_pow_pos n
    have e5 : z8 .u64 (1 : Int) (n : Int) = ((1 * 2 ^ n : Nat) : Int) := Yc (a := 1) (by omega) (by omega)
    have e6 : wr .u64 (z8 .u64 (1 : Int) (n : Int) - 1) = ((2 ^ n - 1 : Nat) : Int) := by
      rw [e5, ze (by omega) (by omega)]; omega
    rw [e6, X8 (by omega) (by omega), Nat.and_two_pow_sub_one_eq_mod, hcut]
    have hnum := Qx t p n
    rw [zb (by omega) (by omega), qs (by omega) (by omega)]
    push_cast; rfl
  · have h2 : decide ((n : Int) > ((8 * t.length - p : Nat) : Int)) = true := by simp only [decide_eq_true_eq]; omega
    rw [h2, cond_true, if_neg hc]
end Go.Pu

namespace Go.Pu
open Go Go.Sl Go.Mo
def yJ (t : List UInt8) (p n : Nat) : Except Int (List UInt8 × Nat) :=
  if (p + 7) / 8 + n ≤ t.length then .ok ((t.drop ((p + 7) / 8)).take n, 8 * ((p + 7) / 8 + n)) else .error 2
theorem G6 {a : Nat} (ha : a < 9223372036854775808) : YY .i64 (a : Int) 7 = ((8 * (a / 8) : Nat) : Int) := by
  show IntKind.i64.wrap ((BitVec.ofInt 64 (a : Int) &&& ~~~ BitVec.ofInt 64 ((7 : Nat) : Int)).toNat : Int) = _
  rw [yU, yU]
  have e : (BitVec.ofNat 64 a &&& ~~~ BitVec.ofNat 64 7).toNat = 8 * (a / 8) := by
    rw [BitVec.toNat_and, BitVec.toNat_ofNat, Nat.mod_eq_of_lt (by omega)]
    have e2 : (~~~ BitVec.ofNat 64 7).toNat = (2 ^ 61 - 1) * 2 ^ 3 := by decide
    rw [e2]
    apply Nat.eq_of_testBit_eq
    intro j
    rw [Nat.testBit_and, Nat.testBit_mul_two_pow, Nat.testBit_two_pow_sub_one, show 8 * (a / 8) = (a / 2 ^ 3) * 2 ^ 3 by rw [Nat.mul_comm], Nat.testBit_mul_two_pow, Nat.testBit_div_two_pow]
    by_cases h : 3 ≤ j
    · simp only [h, decide_true, Bool.true_and, show j - 3 + 3 = j by omega]
      by_cases h2 : j - 3 < 61
      · simp [h2]
      · have : a.testBit j = false := Nat.testBit_lt_two_pow (Nat.lt_of_lt_of_le (by omega : a < 2 ^ 63) (Nat.pow_le_pow_right (by decide) (by omega)))
        simp [this]
    · simp [h]
  rw [e]
  exact qs (by omega) (by omega)
theorem Je (K : Nat) (t : List UInt8) (p n : Nat) (hp : p ≤ 8 * t.length) (hl : t.length < 140737488355328) (hn : n < 140737488355328) :
    yo.m K ⟨⟨p⟩, t⟩ n = match yJ t p n with
      | .ok (v, q) => .ok (v, 0, (q : Int))
      | .error e => .ok ([], e, ((8 * ((p + 7) / 8) : Nat) : Int)) := by
  unfold yo.m yJ xW.m
  have h1 : decide ((n : Int) < 0) = false := by simp
  rw [h1, cond_false]
  simp only [qN.bind_ok]
  have e1 : qg ((p : Int) + 7) = ((p + 7 : Nat) : Int) := by rw [qs (by omega) (by omega)]; push_cast; rfl
  simp only [e1]
  rw [G6 (by omega)]
  have e2 : yb .i64 ((8 * ((p + 7) / 8) : Nat) : Int) 8 = (((p + 7) / 8 : Nat) : Int) := by
    have := Zs (a := 8 * ((p + 7) / 8)) (b := 8) (by omega) (by omega)
    rw [show ((8 : Nat) : Int) = 8 from rfl] at this
    rw [this]; congr 1; omega
  simp only [e2]
  generalize hq : (p + 7) / 8 = q
  have hql : q ≤ t.length := by omega
  have h2 : subok (q : Int) (t.length : Int) t.length = true := by simp only [subok, decide_eq_true_eq]; omega
  rw [h2]
  simp only [qf, qC]
  have e3 : sub t (q : Int) (t.length : Int) = t.drop q := by
    simp only [sub, Int.toNat_natCast]
    rw [List.take_of_length_le (by simp)]
  rw [e3]
  have e4 : (t.drop q).length = t.length - q := by simp
  rw [e4]
  by_cases hc : q + n ≤ t.length
  · have h3 : decide ((n : Int) > ((t.length - q : Nat) : Int)) = false := by simp only [decide_eq_false_iff_not]; omega
    have h4 : subok (0 : Int) (n : Int) (t.length - q) = true := by simp only [subok, decide_eq_true_eq]; omega
    rw [h3, cond_false, if_pos hc, h4]
    simp only [qf, sub, Int.toNat_natCast, Int.toNat_zero, List.drop_zero, Nat.sub_zero]
    have e5 : qg (8 * (n : Int)) = ((8 * n : Nat) : Int) := by rw [qs (by omega) (by omega)]; push_cast; rfl
    rw [e5, qs (by omega) (by omega)]
    have e6 : ((8 * q : Nat) : Int) + ((8 * n : Nat) : Int) = ((8 * (q + n) : Nat) : Int) := by push_cast; omega
    rw [e6]
  · have h3 : decide ((n : Int) > ((t.length - q : Nat) : Int)) = true := by simp only [decide_eq_true_eq]; omega
    rw [h3, cond_true, if_neg hc]
end Go.Pu

namespace Go.Pu
open Go Go.Sl Go.Mo
def KJ (x : Int) : Prop := 0 ≤ x ∧ x ≤ 15
instance (x : Int) : Decidable (KJ x) := inferInstanceAs (Decidable (_ ∧ _))
def XD (l : List Int) : Prop := l.length ≤ 320 ∧ ∀ x ∈ l, KJ x
instance (l : List Int) : Decidable (XD l) := inferInstanceAs (Decidable (_ ∧ _))
def cs (l : List Int) : List Int := (List.range 16).map fun (j : Nat) => ((l.count (j : Int) : Nat) : Int)
def Zk (l : List Int) : List Int := (List.range 16).map fun (j : Nat) => if j = 0 then 0 else ((l.count (j : Int) : Nat) : Int)
theorem Bq (l : List Int) : (cs l).length = 16 := by simp [cs]
theorem DM (l : List Int) : (Zk l).length = 16 := by simp [Zk]
theorem yV {α : Type} [Inhabited α] {l : List α} {i : Nat} (h : i < l.length) : rd l (i : Int) = l[i] := by
  simp [rd, List.getD, List.getElem?_eq_getElem h]
theorem z7 {i n : Nat} (h : i < n) : inb (i : Int) n = true := by simp only [inb, decide_eq_true_eq]; omega
theorem v6 {α : Type} {l : List α} {i : Nat} (h : i < l.length) : l.take (i + 1) = l.take i ++ [l[i]] := List.take_succ_eq_append_getElem h
theorem vR {α : Type} {l : List α} {i : Nat} (h : i < l.length) : l.drop i = l[i] :: l.drop (i + 1) := List.drop_eq_getElem_cons h
theorem DO {l : List Int} {i : Nat} (h : i < l.length) (hi : KJ l[i]) (hl : l.length ≤ 320) :
    (cs (l.take i)).set (Int.toNat l[i]) (qg ((rd (cs (l.take i)) l[i]) + 1)) = cs (l.take (i + 1)) := by
  obtain ⟨h0, h1⟩ := hi
  obtain ⟨x, hx⟩ := Int.eq_ofNat_of_zero_le h0
  have hx16 : x < 16 := by omega
  have hrd : rd (cs (l.take i)) l[i] = (((l.take i).count (x : Int) : Nat) : Int) := by
    rw [hx, yV (by rw [Bq]; exact hx16)]; simp [cs]
  have hc : (l.take i).count (x : Int) ≤ 320 := Nat.le_trans List.count_le_length (by simp; omega)
  rw [hrd, qs (by omega) (by omega), hx]
  apply List.ext_getElem
  · simp [cs]
  · intro j h1 h2
    simp only [List.length_set, Bq] at h1
    rw [List.getElem_set]
    simp only [Int.toNat_natCast, v6 h]
    by_cases hj : x = j
    · subst hj
      simp [cs, List.count_append, hx]
    · have : ¬ ((x : Int) = (j : Int)) := by omega
      simp [cs, List.count_append, hj, hx, List.count_cons, this]
theorem Vf (K : Nat) (l : List Int) (hl : l.length ≤ 320) : ∀ j k i, i + j = l.length → j < k → (∀ x ∈ l.drop i, KJ x) →
    xh.l1 K l k (cs (l.take i)) (i : Int) = xh.j2 K (cs l)
  | _, 0, _, _, h, _ => by omega
  | 0, k + 1, i, hi, _, _ => by
    rw [xh.l1]
    have h1 : decide ((i : Int) < (l.length : Int)) = false := by simp only [decide_eq_false_iff_not]; omega
    rw [h1, cond_false, List.take_of_length_le (by omega)]
  | j + 1, k + 1, i, hi, hk, hr => by
    rw [xh.l1]
    have hil : i < l.length := by omega
    have h1 : decide ((i : Int) < (l.length : Int)) = true := by simp only [decide_eq_true_eq]; omega
    rw [h1, cond_true, z7 hil]
    simp only [qf, qC, yV hil]
    rw [vR hil] at hr
    have hin := hr l[i] List.mem_cons_self
    have h2 : (decide (l[i] < 0) || decide (l[i] > 15)) = false := by obtain ⟨a, b⟩ := hin; simp; omega
    have h3 : inb l[i] 16 = true := by obtain ⟨a, b⟩ := hin; simp only [inb, decide_eq_true_eq]; omega
    rw [h2, cond_false, h3]
    simp only [qf]
    rw [DO hil hin hl]
    have e : qg ((i : Int) + 1) = ((i + 1 : Nat) : Int) := by rw [qs (by omega) (by omega)]; push_cast; rfl
    rw [e]
    exact Vf K l hl j k (i + 1) (by omega) (by omega) (fun x hx => hr x (List.mem_cons_of_mem _ hx))
theorem YS (K : Nat) (l : List Int) (hl : l.length ≤ 320) : ∀ j k i c, i + j = l.length → j < k → c.length = 16 → (∃ x ∈ l.drop i, ¬ KJ x) →
    ∃ c', xh.l1 K l k c (i : Int) = .ok (c', false)
  | _, 0, _, _, _, h, _, _ => by omega
  | 0, k + 1, i, c, hi, _, _, ⟨x, hx, _⟩ => by
    rw [List.drop_eq_nil_of_le (by omega)] at hx; cases hx
  | j + 1, k + 1, i, c, hi, hk, hc, ⟨x, hx, hn⟩ => by
    rw [xh.l1]
    have hil : i < l.length := by omega
    have h1 : decide ((i : Int) < (l.length : Int)) = true := by simp only [decide_eq_true_eq]; omega
    rw [h1, cond_true, z7 hil]
    simp only [qf, qC, yV hil]
    by_cases hin : KJ l[i]
    · have h2 : (decide (l[i] < 0) || decide (l[i] > 15)) = false := by obtain ⟨a, b⟩ := hin; simp; omega
      have h3 : inb l[i] 16 = true := by obtain ⟨a, b⟩ := hin; simp only [inb, decide_eq_true_eq]; omega
      rw [h2, cond_false, h3]
      simp only [qf]
      have e : qg ((i : Int) + 1) = ((i + 1 : Nat) : Int) := by rw [qs (by omega) (by omega)]; push_cast; rfl
      rw [e]
      refine YS K l hl j k (i + 1) _ (by omega) (by omega) (by simp [hc]) ⟨x, ?_, hn⟩
      rw [vR hil] at hx
      rcases List.mem_cons.1 hx with rfl | hx
      · exact absurd hin hn
      · exact hx
    · have h2 : (decide (l[i] < 0) || decide (l[i] > 15)) = true := by
        unfold KJ at hin; simp; omega
      rw [h2, cond_true]
      exact ⟨_, rfl⟩
theorem ZY (K : Nat) (l : List Int) (hK : 320 < K) : (XD l → xh.m K l = .ok (Zk l, true)) ∧ (¬ XD l → ∃ c, xh.m K l = .ok (c, false)) := by
  unfold xh.m
  have e0 : cs (l.take 0) = List.replicate 16 (0 : Int) := by simp [cs]; rfl
  constructor
  · intro ⟨h1, h2⟩
    have h3 : decide ((l.length : Int) > 320) = false := by simp only [decide_eq_false_iff_not]; omega
    rw [h3, cond_false, ← e0]
    have := Vf K l h1 l.length K 0 (by omega) (by omega) (by simpa using h2)
    rw [show ((0 : Nat) : Int) = 0 from rfl] at this
    rw [this, xh.j2]
    simp only [qC]
    rfl
  · intro hn
    by_cases h1 : l.length ≤ 320
    · have h3 : decide ((l.length : Int) > 320) = false := by simp only [decide_eq_false_iff_not]; omega
      rw [h3, cond_false]
      have hb : ∃ x ∈ l.drop 0, ¬ KJ x := by
        apply Classical.byContradiction
        intro hno
        refine hn ⟨h1, fun x hx => Classical.byContradiction fun hx2 => hno ⟨x, by simpa using hx, hx2⟩⟩
      obtain ⟨c, hc⟩ := YS K l h1 l.length K 0 (List.replicate 16 0) (by omega) (by omega) (by simp) hb
      exact ⟨c, hc⟩
    · have h3 : decide ((l.length : Int) > 320) = true := by simp only [decide_eq_true_eq]; omega
      rw [h3, cond_true]
      exact ⟨_, rfl⟩
end Go.Pu

namespace Go.Pu
open Go Go.Sl Go.Mo
def c0 (l : List Int) (n : Nat) : Nat := if n = 0 then 0 else l.count (n : Int)
def ks (l : List Int) : Nat → Nat
  | 0 => 0
  | i + 1 => ks l i + c0 l i * 2 ^ (15 - i)
def nz (l : List Int) : List Int := l.filter fun x => decide (0 < x)
def xe (l : List Int) : Int := if XD l then (if nz l = [] ∨ nz l = [1] ∨ ks l 16 = 32768 then 0 else 3) else 1
theorem YP {l : List Int} (h : l.length ≤ 320) (n : Nat) : c0 l n ≤ 320 := by
  unfold c0
  split
  · omega
  · exact Nat.le_trans List.count_le_length h
theorem BI {l : List Int} (h : l.length ≤ 320) : ∀ i, ks l i ≤ i * 10485760
  | 0 => by simp [ks]
  | i + 1 => by
    have h1 := BI h i
    have h2 : c0 l i * 2 ^ (15 - i) ≤ 320 * 2 ^ 15 := Nat.mul_le_mul (YP h i) (Nat.pow_le_pow_right (by decide) (by omega))
    rw [ks]; omega
theorem JW {l : List Int} {n : Nat} (h : n < 16) : rd (Zk l) (n : Int) = (c0 l n : Int) := by
  rw [yV (by rw [DM]; exact h)]
  simp only [Zk, c0, List.getElem_map, List.getElem_range]
  split <;> rfl
theorem Zy (K : Nat) (l : List Int) (hl : l.length ≤ 320) : ∀ j k, j ≤ 16 → j < k → xr.l1 K (Zk l) k (ks l (16 - j) : Int) ((16 - j : Nat) : Int) = xr.j2 K (Zk l) (ks l 16 : Int)
  | _, 0, _, h => by omega
  | 0, k + 1, _, _ => by
    rw [xr.l1]
    rfl
  | j + 1, k + 1, hj, hk => by
    rw [xr.l1]
    generalize hi : 16 - (j + 1) = i
    have hil : i < 16 := by omega
    have h1 : decide ((i : Int) < 16) = true := by simp only [decide_eq_true_eq]; omega
    have h2 : decide ((0 : Int) ≤ (i : Int)) = true := decide_eq_true (Int.natCast_nonneg _)
    rw [h1, cond_true, z7 hil, h2]
    simp only [qf, qC, JW hil]
    have e1 : xb .i64 (32768 : Int) (i : Int) = ((2 ^ (15 - i) : Nat) : Int) := by
      rw [show (32768 : Int) = ((32768 : Nat) : Int) from rfl, yt (k := .i64) (by show i ≤ 64; omega)]
      congr 1
      rw [show (32768 : Nat) = 2 ^ (15 - i) * 2 ^ i by rw [← Nat.pow_add, show 15 - i + i = 15 by omega], Nat.mul_div_cancel _ (Nat.two_pow_pos i)]
    have hb := BI hl i
    have hb2 := BI hl (i + 1)
    have hm : c0 l i * 2 ^ (15 - i) ≤ 320 * 2 ^ 15 := Nat.mul_le_mul (YP hl i) (Nat.pow_le_pow_right (by decide) (by omega))
    have e2 : qg ((c0 l i : Int) * ((2 ^ (15 - i) : Nat) : Int)) = ((c0 l i * 2 ^ (15 - i) : Nat) : Int) := by
      rw [← Int.natCast_mul, qs (by omega) (by omega)]
    have e3 : qg ((ks l i : Int) + ((c0 l i * 2 ^ (15 - i) : Nat) : Int)) = (ks l (i + 1) : Int) := by
      have e : (ks l i : Int) + ((c0 l i * 2 ^ (15 - i) : Nat) : Int) = (ks l (i + 1) : Int) := by rw [ks]; push_cast; rfl
      rw [e, qs (by omega) (by omega)]
    have e4 : qg ((i : Int) + 1) = ((i + 1 : Nat) : Int) := by rw [qs (by omega) (by omega)]; push_cast; rfl
    simp only [e1, e2, e3, e4]
    have := Zy K l hl j k (by omega) (by omega)
    rw [show 16 - j = i + 1 by omega] at this
    exact this
theorem D5 (x : Int) (l : List Int) : nz (x :: l) = if 0 < x then x :: nz l else nz l := by
  simp [nz, List.filter_cons]
theorem DG (x : Int) (l : List Int) (n : Nat) : c0 (x :: l) n = c0 l n + (if 0 < n ∧ x = n then 1 else 0) := by
  unfold c0
  by_cases h : n = 0
  · subst h; simp
  · have : 0 < n := by omega
    simp only [h, if_false, List.count_cons, this, true_and]
    by_cases hx : x = (n : Int) <;> simp [hx]
theorem JI (x : Int) (l : List Int) : ∀ i, ks (x :: l) i = ks l i + (if 0 < x ∧ x < i then 2 ^ (15 - x.toNat) else 0)
  | 0 => by simp [ks]; omega
  | i + 1 => by
    rw [ks, ks, JI x l i, DG]
    by_cases hx : x = (i : Int)
    · subst hx
      by_cases h0 : 0 < i
      · have h1 : (0 : Int) < (i : Int) := by omega
        have h2 : ¬ ((i : Int) < (i : Int)) := by omega
        have h3 : (i : Int) < ((i + 1 : Nat) : Int) := by omega
        simp only [h0, h1, h2, h3, and_true, and_false, if_true, if_false, Int.toNat_natCast]
        rw [Nat.add_mul, Nat.one_mul]; omega
      · have : i = 0 := by omega
        subst this; simp
    · have h1 : ¬ (0 < i ∧ x = (i : Int)) := fun h => hx h.2
      rw [if_neg h1]
      by_cases h2 : 0 < x ∧ x < (i : Int)
      · have h3 : 0 < x ∧ x < ((i + 1 : Nat) : Int) := by omega
        rw [if_pos h2, if_pos h3]; simp only [Nat.add_zero]; omega
      · have h3 : ¬ (0 < x ∧ x < ((i + 1 : Nat) : Int)) := by omega
        rw [if_neg h2, if_neg h3]; simp only [Nat.add_zero]
theorem BV {x : Int} {l : List Int} (h : XD (x :: l)) : KJ x ∧ XD l := ⟨h.2 x (by simp), by have := h.1; simp at this; omega, fun y hy => h.2 y (by simp [hy])⟩
theorem JJ : ∀ {l : List Int}, XD l → (ks l 16 = 0 ↔ nz l = [])
  | [], _ => by simp [nz]; rfl
  | x :: l, h => by
    obtain ⟨⟨hx0, hx1⟩, hl⟩ := BV h
    rw [JI, D5]
    by_cases hx : 0 < x
    · have h2 : 0 < x ∧ x < ((16 : Nat) : Int) := by omega
      have := Nat.two_pow_pos (15 - x.toNat)
      rw [if_pos h2, if_pos hx]
      constructor
      · intro h; omega
      · intro h; cases h
    · have h2 : ¬ (0 < x ∧ x < ((16 : Nat) : Int)) := by omega
      rw [if_neg h2, if_neg hx, Nat.add_zero]
      exact JJ hl
theorem Yf {l : List Int} {n : Nat} (hn : 0 < n) : (nz l).count (n : Int) = l.count (n : Int) := by
  unfold nz
  rw [List.count_filter]
  simp; omega
theorem DN {l : List Int} (h : XD l) : Zk l = [0, 1, 0, 0, 0, 0, 0, 0, 0, 0, 0, 0, 0, 0, 0, 0] ↔ nz l = [1] := by
  constructor
  · intro hc
    have hcount : ∀ n : Nat, 0 < n → n < 16 → (nz l).count (n : Int) = if n = 1 then 1 else 0 := by
      intro n h0 h1
      have h2 : rd (Zk l) (n : Int) = (c0 l n : Int) := JW h1
      rw [hc] at h2
      rw [Yf h0]
      have h3 : c0 l n = l.count (n : Int) := by unfold c0; rw [if_neg (by omega)]
      rw [← h3]
      have h4 : ∀ m : Nat, m < 16 → 0 < m → rd [(0 : Int), 1, 0, 0, 0, 0, 0, 0, 0, 0, 0, 0, 0, 0, 0, 0] (m : Int) = if m = 1 then 1 else 0 := by decide
      rw [h4 n h1 h0] at h2
      by_cases hh : n = 1
      · rw [if_pos hh] at h2 ⊢; omega
      · rw [if_neg hh] at h2 ⊢; omega
    have hall : ∀ x ∈ nz l, x = 1 := by
      intro x hx
      have hx' := List.mem_filter.1 hx
      have h0 : 0 < x := by simpa using hx'.2
      have h1 := (h.2 x hx'.1).2
      obtain ⟨m, hm⟩ := Int.eq_ofNat_of_zero_le (by omega : 0 ≤ x)
      have h2 := hcount m (by omega) (by omega)
      have h3 : 0 < (nz l).count (m : Int) := List.count_pos_iff.2 (hm ▸ hx)
      split at h2 <;> omega
    have h1 := hcount 1 (by omega) (by omega)
    simp only [if_true] at h1
    have h2 : (nz l).length = 1 := by
      have : (nz l).count (1 : Int) = (nz l).length := List.count_eq_length.2 fun b hb => (hall b hb).symm
      rw [← this]; exact h1
    match hn : nz l, h2 with
    | [y], _ => rw [hall y (by rw [hn]; simp)]
  · intro hn
    have h3 : ∀ j ∈ List.range 16, (if j = 0 then (0 : Int) else ((l.count (j : Int) : Nat) : Int)) = if j = 1 then 1 else 0 := by
      intro j _
      by_cases h0 : j = 0
      · subst h0; rfl
      · rw [if_neg h0, ← Yf (by omega), hn]
        by_cases h1 : j = 1
        · subst h1; rfl
        · simp [h1, List.count_cons]; omega
    unfold Zk
    rw [List.map_congr_left h3]
    rfl
theorem Jf (K : Nat) (l : List Int) (hK : 320 < K) : xr.m K l = .ok (xe l) := by
  unfold xr.m xe
  obtain ⟨h1, h2⟩ := ZY K l hK
  by_cases h : XD l
  · rw [h1 h, if_pos h]
    simp only [qN.bind_ok, Bool.not_true, cond_false]
    have := Zy K l h.1 16 K (by omega) (by omega)
    rw [Nat.sub_self] at this
    refine (show xr.l1 K (Zk l) K (0 : Int) (0 : Int) = _ from this).trans ?_
    unfold xr.j2
    have e1 : ((ks l 16 : Int) == 0) = decide (nz l = []) := by
      rw [Bool.eq_iff_iff]; simp only [beq_iff_eq, decide_eq_true_eq]; rw [← JJ h]; omega
    have e2 : (Zk l == ([0, (1 : Int), 0, 0, 0, 0, 0, 0, 0, 0, 0, 0, 0, 0, 0, 0] : List Int)) = decide (nz l = [1]) := by
      rw [Bool.eq_iff_iff]; simp only [beq_iff_eq, decide_eq_true_eq]; exact DN h
    have e3 : ((ks l 16 : Int) == 32768) = decide (ks l 16 = 32768) := by
      rw [Bool.eq_iff_iff]; simp only [beq_iff_eq, decide_eq_true_eq]; omega
    rw [e1, e2, e3]
    by_cases a : nz l = [] <;> by_cases b : nz l = [1] <;> by_cases c : ks l 16 = 32768 <;> simp [a, b, c]
  · obtain ⟨c, hc⟩ := h2 h
    rw [hc, if_neg h]
    rfl
end Go.Pu

namespace Go.Pu
open Go Go.Sl Go.Mo
end Go.Pu

namespace Go.Pu
open Go Go.Sl Go.Mo
def jK (l : List Int) : Nat → Nat
  | 0 => 0
  | n + 1 => 2 * (jK l n + c0 l n)
def vd (l : List Int) (i : Nat) : Nat := if 0 < l.getD i 0 then jK l (l.getD i 0).toNat + (l.take i).count (l.getD i 0) else 0
def xk (l : List Int) : List Int := (List.range l.length).map fun (i : Nat) => (vd l i : Int)
def MU (l : List Int) (n i : Nat) : List Int := (List.range l.length).map fun (j : Nat) =>
  if (0 < l.getD j 0 ∧ l.getD j 0 < (n : Int)) ∨ (l.getD j 0 = (n : Int) ∧ j < i) then (vd l j : Int) else 0
theorem JB {l : List Int} (h : l.length ≤ 320) : ∀ n, jK l n + 640 ≤ 640 * 2 ^ n
  | 0 => by simp [jK]
  | n + 1 => by
    have := JB h n
    have h2 := YP h n
    rw [jK, Nat.pow_succ]; omega
theorem xZ {l : List Int} {i : Nat} (h : i < l.length) : l.getD i 0 = l[i] := by simp [List.getD, List.getElem?_eq_getElem h]
theorem XS {l : List Int} {n : Nat} (h : 0 < n) : c0 l n = l.count (n : Int) := by unfold c0; rw [if_neg (by omega)]
end Go.Pu

namespace Go.Pu
open Go Go.Sl Go.Mo
def idx (l : List Int) (n i : Nat) : List Int := ((List.range i).filter fun j => decide (l.getD j 0 = (n : Int))).map fun (j : Nat) => (j : Int)
def xi (l : List Int) : Nat → List Int
  | 0 => []
  | n + 1 => if n = 0 then [] else xi l n ++ idx l n l.length
theorem Zq (l : List Int) (n i : Nat) : idx l n (i + 1) = if l.getD i 0 = (n : Int) then idx l n i ++ [(i : Int)] else idx l n i := by
  unfold idx
  rw [List.range_succ, List.filter_append, List.map_append, List.filter_cons]
  by_cases h : l.getD i 0 = (n : Int)
  · rw [if_pos (by simpa using h), if_pos h]; simp
  · rw [if_neg (by simpa using h), if_neg h]; simp
theorem BA (l : List Int) (n i : Nat) : (idx l n i).length ≤ i := by
  unfold idx
  rw [List.length_map]
  exact Nat.le_trans (List.length_filter_le _ _) (by simp)
theorem ZF (l : List Int) (h : l.length ≤ 320) : ∀ n, (xi l n).length ≤ 320 * n
  | 0 => by simp [xi]
  | n + 1 => by
    rw [xi]
    split
    · simp
    · have := ZF l h n
      have h2 := BA l n l.length
      rw [List.length_append]; omega
theorem Yj (K : Nat) (g : List Int → Int → qN (Option qH × Int)) (l : List Int) (n : Nat) (hl : l.length ≤ 320) (hn : 0 < n) (hn16 : n < 16) : ∀ j k i, i + j = l.length → j < k →
    xN.l2 K g l n k (xi l n ++ idx l n i) (i : Int) = g (xi l (n + 1)) ((n + 1 : Nat) : Int)
  | _, 0, _, _, h => by omega
  | 0, k + 1, i, hi, _ => by
    rw [xN.l2]
    have h1 : decide ((i : Int) < (l.length : Int)) = false := by simp only [decide_eq_false_iff_not]; omega
    have e : qg ((n : Int) + 1) = ((n + 1 : Nat) : Int) := by rw [qs (by omega) (by omega)]; push_cast; rfl
    rw [h1, cond_false]
    have : i = l.length := by omega
    subst this
    simp only [qC, e, xi]
    rw [if_neg (by omega)]
  | j + 1, k + 1, i, hi, hk => by
    rw [xN.l2]
    have hil : i < l.length := by omega
    have h1 : decide ((i : Int) < (l.length : Int)) = true := by simp only [decide_eq_true_eq]; omega
    rw [h1, cond_true, z7 hil]
    simp only [qf, qC, yV hil]
    have e : qg ((i : Int) + 1) = ((i + 1 : Nat) : Int) := by rw [qs (by omega) (by omega)]; push_cast; rfl
    have IH := Yj K g l n hl hn hn16 j k (i + 1) (by omega) (by omega)
    rw [Zq, xZ hil] at IH
    by_cases hx : l[i] = (n : Int)
    · have h2 : (l[i] == (n : Int)) = true := by simpa using hx
      have h3 := ZF l hl n
      have h4 := BA l n i
      have h5 : room ((xi l n ++ idx l n i).length + ([(i : Int)] : List Int).length) 8 = true := by
        simp only [room, List.length_append, List.length_cons, List.length_nil, decide_eq_true_eq]; omega
      rw [h2, cond_true, h5, e]
      rw [if_pos hx, ← List.append_assoc] at IH
      exact IH
    · have h2 : (l[i] == (n : Int)) = false := by simpa using hx
      rw [h2, cond_false, e]
      rw [if_neg hx] at IH
      exact IH
theorem Yi (K : Nat) (l c : List Int) (hl : l.length ≤ 320) (hK : 320 < K) : ∀ j k, j ≤ 15 → j < k →
    xN.l1 K l c k (xi l (16 - j)) ((16 - j : Nat) : Int) = .ok (some ⟨c, xi l 16⟩, 0)
  | _, 0, _, h => by omega
  | 0, k + 1, _, _ => by
    rw [xN.l1]
    have h1 : decide (((16 - 0 : Nat) : Int) ≤ 15) = false := by decide
    rw [h1, cond_false]
  | j + 1, k + 1, hj, hk => by
    rw [xN.l1]
    generalize hn : 16 - (j + 1) = n
    have h1 : decide ((n : Int) ≤ 15) = true := by simp only [decide_eq_true_eq]; omega
    rw [h1, cond_true]
    have := Yj K (xN.l1 K l c k) l n hl (by omega) (by omega) l.length K 0 (by omega) (by omega)
    rw [show idx l n 0 = [] from rfl, List.append_nil] at this
    refine (show _ = _ from this).trans ?_
    have IH := Yi K l c hl hK j k (by omega) (by omega)
    rw [show 16 - j = n + 1 by omega] at IH
    exact IH
theorem xv {l : List Int} (h : xe l = 0) : XD l := by
  apply Classical.byContradiction
  intro hn
  unfold xe at h
  rw [if_neg hn] at h; omega
theorem Gb (K : Nat) (l : List Int) (hK : 320 < K) : xN.m K l = if xe l = 0 then .ok (some ⟨Zk l, xi l 16⟩, 0) else .ok (none, xe l) := by
  unfold xN.m
  rw [Jf K l hK]
  simp only [qN.bind_ok]
  by_cases h : xe l = 0
  · have h1 : (xe l != 0) = false := by simpa using h
    rw [h1, cond_false, if_pos h, (ZY K l hK).1 (xv h)]
    simp only [qN.bind_ok]
    exact Yi K l (Zk l) (xv h).1 hK 15 K (by omega) (by omega)
  · have h1 : (xe l != 0) = true := by simpa using h
    rw [h1, cond_true, if_neg h]
end Go.Pu

namespace Go.Pu
open Go Go.Sl Go.Mo
theorem vU (l : List Int) (n : Nat) : ∀ i, i ≤ l.length → (idx l n i).length = (l.take i).count (n : Int)
  | 0, _ => by simp [idx]
  | i + 1, h => by
    have hil : i < l.length := by omega
    rw [Zq, v6 hil, List.count_append, xZ hil]
    have IH := vU l n i (by omega)
    by_cases hx : l[i] = (n : Int)
    · rw [if_pos hx, List.length_append, IH, hx]; simp
    · rw [if_neg hx, IH]
      have : List.count (n : Int) [l[i]] = 0 := by
        rw [List.count_eq_zero]; simp; exact fun h => hx h.symm
      omega
theorem X9 (l : List Int) (n : Nat) {i : Nat} : ∀ j, i ≤ j → idx l n i <+: idx l n j
  | 0, h => by
    have : i = 0 := by omega
    subst this; exact List.prefix_refl _
  | j + 1, h => by
    by_cases hij : i = j + 1
    · subst hij; exact List.prefix_refl _
    · refine (X9 l n j (by omega)).trans ?_
      rw [Zq]
      split
      · exact List.prefix_append _ _
      · exact List.prefix_refl _
theorem JG {l : List Int} {n i : Nat} (h : i < l.length) (hi : l[i] = (n : Int)) : (idx l n l.length)[(l.take i).count (n : Int)]? = some (i : Int) := by
  obtain ⟨r, hr⟩ := X9 l n (i := i + 1) l.length (by omega)
  rw [← hr, Zq, xZ h, if_pos hi, ← vU l n i (by omega), List.append_assoc, List.getElem?_append_right (Nat.le_refl _), Nat.sub_self]
  rfl
theorem DT {l : List Int} {n : Nat} {x : Int} (h : x ∈ idx l n l.length) : ∃ i : Nat, x = i ∧ ∃ hi : i < l.length, l[i] = (n : Int) := by
  obtain ⟨i, hi, rfl⟩ := List.mem_map.1 h
  have h2 := List.mem_filter.1 hi
  have h3 := List.mem_range.1 h2.1
  exact ⟨i, rfl, h3, by have := h2.2; rw [xZ h3] at this; simpa using this⟩
theorem KI (l : List Int) (n : Nat) : (idx l n l.length).Nodup := by
  unfold idx
  refine List.Pairwise.map _ (fun a b hab => by omega) (List.Pairwise.filter _ (List.nodup_range (n := l.length)))
theorem DS {l : List Int} {n r : Nat} (h : r < l.count (n : Int)) : ∃ i : Nat, (idx l n l.length)[r]? = some (i : Int) ∧ ∃ hi : i < l.length, l[i] = (n : Int) ∧ (l.take i).count (n : Int) = r := by
  have hlen : (idx l n l.length).length = l.count (n : Int) := by rw [vU l n l.length (Nat.le_refl _), List.take_length]
  have hr : r < (idx l n l.length).length := by omega
  obtain ⟨i, hx, hi, hl⟩ := DT (List.getElem_mem hr)
  refine ⟨i, by rw [List.getElem?_eq_getElem hr, hx], hi, hl, ?_⟩
  have h1 := JG hi hl
  have h2 : (l.take i).count (n : Int) < (idx l n l.length).length := (List.getElem?_eq_some_iff.1 h1).1
  have h3 := (List.getElem?_eq_some_iff.1 h1).2
  have hp := List.pairwise_iff_getElem.1 (KI l n)
  have he : (idx l n l.length)[(l.take i).count (n : Int)] = (idx l n l.length)[r] := h3.trans hx.symm
  rcases Nat.lt_trichotomy ((l.take i).count (n : Int)) r with h | h | h
  · exact absurd he (hp _ _ h2 hr h)
  · exact h
  · exact absurd he.symm (hp _ _ hr h2 h)
theorem ZG (l : List Int) {n : Nat} (h : 0 < n) : (xi l (n + 1)).length = (xi l n).length + c0 l n := by
  rw [xi, if_neg (by omega), List.length_append, vU l n l.length (Nat.le_refl _), List.take_length, XS h]
theorem Qc (l : List Int) {n : Nat} : ∀ m, n ≤ m → 0 < n → xi l n <+: xi l m
  | 0, h, h0 => by omega
  | m + 1, h, h0 => by
    by_cases hnm : n = m + 1
    · subst hnm; exact List.prefix_refl _
    · refine (Qc l m (by omega) h0).trans ?_
      rw [xi, if_neg (by omega)]
      exact List.prefix_append _ _
theorem Kq {l : List Int} {n r : Nat} (hn : 0 < n) (hn16 : n < 16) (h : r < c0 l n) :
    ∃ i : Nat, (xi l 16)[(xi l n).length + r]? = some (i : Int) ∧ ∃ hi : i < l.length, l[i] = (n : Int) ∧ vd l i = jK l n + r := by
  rw [XS hn] at h
  obtain ⟨i, h1, hi, hl, hc⟩ := DS h
  refine ⟨i, ?_, hi, hl, ?_⟩
  · obtain ⟨s, hs⟩ := Qc l (n := n + 1) 16 (by omega) (by omega)
    have hr : r < (idx l n l.length).length := (List.getElem?_eq_some_iff.1 h1).1
    rw [← hs, xi, if_neg (by omega), List.append_assoc, List.getElem?_append_right (by omega), show (xi l n).length + r - (xi l n).length = r by omega, List.getElem?_append_left hr]
    exact h1
  · unfold vd
    rw [xZ hi, hl, if_pos (by omega), Int.toNat_natCast, hc]
theorem Uj {l : List Int} {i n : Nat} (hi : i < l.length) (hl : l[i] = (n : Int)) (hn : 0 < n) : vd l i < jK l n + c0 l n ∧ jK l n ≤ vd l i := by
  unfold vd
  rw [xZ hi, hl, if_pos (by omega), Int.toNat_natCast]
  have h1 := JG hi hl
  have h2 := (List.getElem?_eq_some_iff.1 h1).1
  rw [vU l n l.length (Nat.le_refl _), List.take_length] at h2
  rw [XS hn]; omega
theorem DJ {l : List Int} {i j n : Nat} (hi : i < l.length) (hj : j < l.length) (hli : l[i] = (n : Int)) (hlj : l[j] = (n : Int)) (hn : 0 < n) (h : vd l i = vd l j) : i = j := by
  unfold vd at h
  rw [xZ hi, xZ hj, hli, hlj, if_pos (by omega), if_pos (by omega)] at h
  have h1 := JG hi hli
  have h2 := JG hj hlj
  have h3 : (l.take i).count (n : Int) = (l.take j).count (n : Int) := by omega
  rw [h3, h2] at h1
  have := Option.some.inj h1
  omega
end Go.Pu

namespace Go.Pu
open Go Go.Sl Go.Mo
theorem GH (l : List Int) : ∀ n, n ≤ 15 → (jK l n + c0 l n) * 2 ^ (15 - n) = ks l (n + 1)
  | 0, _ => by simp [jK, ks, c0]
  | n + 1, h => by
    have IH := GH l n (by omega)
    rw [ks, ← IH, jK]
    have e : 2 ^ (15 - n) = 2 * 2 ^ (15 - (n + 1)) := by rw [← Nat.pow_succ']; congr 1; omega
    rw [e, Nat.add_mul]
    congr 1
    rw [← Nat.mul_assoc, Nat.mul_comm (jK l n + c0 l n) 2]
theorem YB (l : List Int) {n m : Nat} (h : n ≤ m) (h0 : 0 < n) : (xi l n).length ≤ (xi l m).length := by
  obtain ⟨r, hr⟩ := Qc l m h h0
  rw [← hr, List.length_append]; omega
theorem VV {l : List Int} (h : xe l = 0) : nz l = [] ∨ nz l = [1] ∨ ks l 16 = 32768 := by
  unfold xe at h
  rw [if_pos (xv (by unfold xe; exact h))] at h
  split at h
  · assumption
  · omega
theorem LD {l : List Int} {n : Nat} (hn : 0 < n) : c0 l n = (nz l).count (n : Int) := by rw [XS hn, Yf hn]
theorem DY {l : List Int} {i n m : Nat} (hnm : n < m) (hm : m < 16) (hi : i < l.length) (hl : l[i] = (m : Int)) : (xi l (n + 1)).length < (xi l 16).length := by
  have h1 := YB l (n := n + 1) (m := m) (by omega) (by omega)
  have h2 := YB l (n := m + 1) (m := 16) (by omega) (by omega)
  have h3 := ZG l (n := m) (by omega)
  have h4 : 0 < c0 l m := by
    rw [XS (by omega)]
    exact List.count_pos_iff.2 (hl ▸ List.getElem_mem hi)
  omega
end Go.Pu

namespace Go.Pu
open Go Go.Sl Go.Mo
def yT (l : List Int) (t : List UInt8) : Nat → Nat → Nat → Nat → Except Int (Nat × Nat)
  | 0, _, _, _ => .error 3
  | k + 1, n, v, p =>
    if (xi l (n + 1)).length < (xi l 16).length then
      if p + 1 ≤ 8 * t.length then
        if 2 * v + (jJ t p).toNat < jK l (n + 1) + c0 l (n + 1) then .ok (((xi l 16).getD ((xi l (n + 1)).length + (2 * v + (jJ t p).toNat) - jK l (n + 1)) 0).toNat, p + 1)
        else yT l t k (n + 1) (2 * v + (jJ t p).toNat) (p + 1)
      else .error 2
    else .error 3
def jI (l : List Int) (t : List UInt8) (p : Nat) : Except Int (Nat × Nat) := yT l t 16 0 0 p
theorem GT (t : List UInt8) (p : Nat) : (jJ t p).toNat ≤ 1 := by cases jJ t p <;> simp
theorem D4 (t : List UInt8) (p : Nat) : Qk t p 1 = (jJ t p).toNat := by simp [Qk]
theorem Lo {v b : Nat} (hb : b ≤ 1) (hv : v < 65536) : QS .i64 (z8 .i64 (v : Int) 1) (wr .i64 (b : Int)) = ((2 * v + b : Nat) : Int) := by
  have e1 : z8 .i64 (v : Int) 1 = ((v * 2 ^ 1 : Nat) : Int) := jP (n := 1) (by omega) (by omega)
  rw [e1, zg (by omega) (by omega), U6 (by omega) (by omega)]
  congr 1
  have := Nat.two_pow_add_eq_or_of_lt (i := 1) (b := b) (by omega) v
  rw [Nat.mul_comm v (2 ^ 1), ← this]
theorem Xj (K : Nat) (l : List Int) (t : List UInt8) (p0 : Nat) (h : XD l) (hl : t.length < 140737488355328) (hK : 32 < K) : ∀ j k n v p, n + j = 15 → j < k → jK l n + c0 l n ≤ v → v < 2 ^ n → p ≤ 8 * t.length →
    z9.l1 K ⟨Zk l, xi l 16⟩ ⟨⟨p0⟩, t⟩ k (p : Int) (v : Int) ((jK l n + c0 l n : Nat) : Int) ((xi l (n + 1)).length : Int) ((n + 1 : Nat) : Int) =
      match yT l t (j + 1) n v p with
      | .ok (s, q) => .ok ((s : Int), 0, (q : Int))
      | .error e => .ok (0, e, (p0 : Int))
  | _, 0, _, _, _, _, h, _, _, _ => by omega
  | j, k + 1, n, v, p, hn, hk, hv, hv2, hp => by
    rw [z9.l1, yT]
    have hsl := ZF l h.1 16
    have hs1 := ZF l h.1 (n + 1)
    by_cases hc : (xi l (n + 1)).length < (xi l 16).length
    · have h1 : decide (((xi l (n + 1)).length : Int) < ((xi l 16).length : Int)) = true := by simp only [decide_eq_true_eq]; omega
      rw [h1, cond_true, if_pos hc]
      have hn15 : n < 15 := by
        apply Classical.byContradiction
        intro hne
        have : n = 15 := by omega
        rw [this] at hc
        exact absurd hc (Nat.lt_irrefl _)
      have hb := VK K t p 1 (by omega) hp hl hK
      rw [show ((1 : Nat) : Int) = 1 from rfl] at hb
      rw [hb]
      unfold xy
      by_cases hq : p + 1 ≤ 8 * t.length
      · rw [if_pos hq, if_pos hq]
        simp only [qN.bind_ok, D4]
        have h2 : ((0 : Int) != 0) = false := rfl
        rw [h2, cond_false]
        have hbl := GT t p
        generalize (jJ t p).toNat = b at hbl ⊢
        have hpow : 2 ^ n ≤ 2 ^ 14 := Nat.pow_le_pow_right (by decide) (by omega)
        have e1 := Lo (v := v) hbl (by omega)
        have e2 : z8 .i64 ((jK l n + c0 l n : Nat) : Int) 1 = (jK l (n + 1) : Int) := by
          have := jP (a := jK l n + c0 l n) (n := 1) (by omega) (by omega)
          rw [show ((1 : Nat) : Int) = 1 from rfl] at this
          rw [this, jK, Nat.mul_comm]
        simp only [qC, e1, e2]
        rw [z7 (show n + 1 < 16 by omega), qf, JW (show n + 1 < 16 by omega)]
        have hf : jK l (n + 1) ≤ 2 * v + b := by rw [jK]; omega
        have hfl := JB h.1 (n + 1)
        have hpow2 : 2 ^ (n + 1) ≤ 2 ^ 15 := Nat.pow_le_pow_right (by decide) (by omega)
        have hcl := YP h.1 (n + 1)
        have e3 : qg (((2 * v + b : Nat) : Int) - (jK l (n + 1) : Int)) = ((2 * v + b - jK l (n + 1) : Nat) : Int) := by rw [qs (by omega) (by omega)]; omega
        simp only [e3]
        by_cases hlt : 2 * v + b < jK l (n + 1) + c0 l (n + 1)
        · have h3 : decide (((2 * v + b - jK l (n + 1) : Nat) : Int) < (c0 l (n + 1) : Int)) = true := by simp only [decide_eq_true_eq]; omega
          rw [h3, cond_true, if_pos hlt]
          have e4 : qg (((xi l (n + 1)).length : Int) + ((2 * v + b : Nat) : Int)) = (((xi l (n + 1)).length + (2 * v + b) : Nat) : Int) := by rw [qs (by omega) (by omega)]; push_cast; rfl
          have e5 : qg ((((xi l (n + 1)).length + (2 * v + b) : Nat) : Int) - (jK l (n + 1) : Int)) = (((xi l (n + 1)).length + (2 * v + b) - jK l (n + 1) : Nat) : Int) := by rw [qs (by omega) (by omega)]; omega
          simp only [e4, e5]
          obtain ⟨i, hi, _, _, _⟩ := Kq (l := l) (n := n + 1) (r := 2 * v + b - jK l (n + 1)) (by omega) (by omega) (by omega)
          rw [show (xi l (n + 1)).length + (2 * v + b - jK l (n + 1)) = (xi l (n + 1)).length + (2 * v + b) - jK l (n + 1) by omega] at hi
          have hlen := (List.getElem?_eq_some_iff.1 hi).1
          have hget := (List.getElem?_eq_some_iff.1 hi).2
          rw [z7 hlen]
          simp only [qf, yV hlen, hget, List.getD, hi, Option.getD_some, Int.toNat_natCast]
        · have h3 : decide (((2 * v + b - jK l (n + 1) : Nat) : Int) < (c0 l (n + 1) : Int)) = false := by simp only [decide_eq_false_iff_not]; omega
          rw [h3, cond_false, if_neg hlt]
          have e4 : qg ((jK l (n + 1) : Int) + (c0 l (n + 1) : Int)) = ((jK l (n + 1) + c0 l (n + 1) : Nat) : Int) := by rw [qs (by omega) (by omega)]; push_cast; rfl
          have e5 : qg (((xi l (n + 1)).length : Int) + (c0 l (n + 1) : Int)) = ((xi l (n + 1 + 1)).length : Int) := by
            rw [ZG l (n := n + 1) (by omega), qs (by omega) (by omega)]; push_cast; rfl
          have e6 : qg (((n + 1 : Nat) : Int) + 1) = ((n + 1 + 1 : Nat) : Int) := by rw [qs (by omega) (by omega)]; push_cast; rfl
          simp only [e4, e5, e6]
          have IH := Xj K l t p0 h hl hK (j - 1) k (n + 1) (2 * v + b) (p + 1) (by omega) (by omega) (by omega) (by rw [Nat.pow_succ]; omega) (by omega)
          rw [show j - 1 + 1 = j by omega] at IH
          exact IH
      · rw [if_neg hq, if_neg hq]
        simp only [qN.bind_ok]
        have h2 : ((2 : Int) != 0) = true := rfl
        rw [h2, cond_true]
    · have h1 : decide (((xi l (n + 1)).length : Int) < ((xi l 16).length : Int)) = false := by simp only [decide_eq_false_iff_not]; omega
      rw [h1, cond_false, if_neg hc]
      rfl
theorem B9 (K : Nat) (l : List Int) (t : List UInt8) (p : Nat) (h : XD l) (hl : t.length < 140737488355328) (hK : 32 < K) (hp : p ≤ 8 * t.length) :
    z9.m K ⟨Zk l, xi l 16⟩ ⟨⟨p⟩, t⟩ = match jI l t p with
      | .ok (s, q) => .ok ((s : Int), 0, (q : Int))
      | .error e => .ok (0, e, (p : Int)) := by
  have := Xj K l t p h hl hK 15 K 0 0 p (by omega) (by omega) (by simp [jK, c0]) (by simp) hp
  have e1 : ((jK l 0 + c0 l 0 : Nat) : Int) = 0 := by simp [jK, c0]
  have e2 : ((xi l (0 + 1)).length : Int) = 0 := by simp [xi]
  rw [e1, e2, show ((0 + 1 : Nat) : Int) = 1 from rfl, show ((0 : Nat) : Int) = 0 from rfl, show (15 + 1 : Nat) = 16 from rfl] at this
  unfold z9.m jI
  exact this
end Go.Pu

namespace Go.Pu
open Go Go.Sl Go.Mo
theorem XT (l : List Int) : (xk l).length = l.length := by simp [xk]
def Mj (l : List Int) (n v i : Nat) : Prop := l.getD i 0 = (n : Int) ∧ 0 < n ∧ vd l i = v
def LP (l : List Int) (n v i : Nat) : Prop := (n : Int) < l.getD i 0 ∧ vd l i / 2 ^ ((l.getD i 0).toNat - n) = v
instance (l : List Int) (n v i : Nat) : Decidable (Mj l n v i) := inferInstanceAs (Decidable (_ ∧ _))
instance (l : List Int) (n v i : Nat) : Decidable (LP l n v i) := inferInstanceAs (Decidable (_ ∧ _))
theorem Kz {l : List Int} (h : XD l) {i : Nat} (hi : i < l.length) : vd l i < 33554432 := by
  obtain ⟨h0, h1⟩ := h.2 l[i] (List.getElem_mem hi)
  obtain ⟨m, hm⟩ := Int.eq_ofNat_of_zero_le h0
  by_cases hm0 : m = 0
  · unfold vd
    rw [xZ hi, hm, hm0, if_neg (by omega)]; omega
  · have := (Uj hi hm (by omega)).1
    have h2 := JB h.1 m
    have h3 := YP h.1 m
    have hp : 2 ^ m ≤ 2 ^ 15 := Nat.pow_le_pow_right (by decide) (by omega)
    omega
end Go.Pu

namespace Go.Pu
open Go Go.Sl Go.Mo
def MB (l : List Int) (t : List UInt8) (n v p : Nat) : Except Int (Nat × Nat) :=
  if 0 < n ∧ v < jK l n + c0 l n then .ok (((xi l 16).getD ((xi l n).length + v - jK l n) 0).toNat, p) else yT l t (16 - n) n v p
end Go.Pu

namespace Go.Pu
open Go Go.Sl Go.Mo
def vh {α β : Type} (f : β → α) : Except Int β → qN α
  | .ok b => .ok (f b)
  | .error e => if e = -1 then .fail else .pan (.iface xD (.agg ⟨[.int .i64 e]⟩))
def two (x : Nat × Nat) : Int × Int := ((x.1 : Int), (x.2 : Int))
theorem xa {t : List UInt8} {p n : Nat} {e : Int} (h : xy t p n = .error e) : e = 2 := by
  unfold xy at h
  split at h
  · cases h
  · cases h; rfl
theorem ji {l : List Int} {t : List UInt8} {k : Nat} : ∀ {n v p : Nat} {e : Int}, yT l t k n v p = .error e → e = 2 ∨ e = 3 := by
  induction k with
  | zero => intro n v p e h; rw [yT] at h; cases h; exact .inr rfl
  | succ k ih =>
    intro n v p e h
    rw [yT] at h
    split at h
    · split at h
      · split at h
        · cases h
        · exact ih h
      · cases h; exact .inl rfl
    · cases h; exact .inr rfl
theorem xd {t : List UInt8} {p n v q : Nat} (h : xy t p n = .ok (v, q)) : v = Qk t p n ∧ q = p + n ∧ q ≤ 8 * t.length := by
  unfold xy at h
  split at h
  · cases h; exact ⟨rfl, rfl, by assumption⟩
  · cases h
theorem jG {l : List Int} {t : List UInt8} {k : Nat} : ∀ {n v p s q : Nat}, yT l t k n v p = .ok (s, q) → p < q ∧ q ≤ 8 * t.length := by
  induction k with
  | zero => intro n v p s q h; rw [yT] at h; cases h
  | succ k ih =>
    intro n v p s q h
    rw [yT] at h
    split at h
    · split at h
      · split at h
        · obtain ⟨_, h2⟩ := Prod.mk.inj (Except.ok.inj h)
          exact ⟨by omega, by omega⟩
        · have := ih h; exact ⟨by omega, this.2⟩
      · cases h
    · cases h
theorem yI (K : Nat) (t : List UInt8) (p n : Nat) (out : List Int) (Xg : Int) (hn : n ≤ 32) (hp : p ≤ 8 * t.length) (hl : t.length < 140737488355328) (hK : 32 < K) :
    zO.m K ⟨⟨⟨p⟩, t⟩, out, Xg⟩ n = vh two (xy t p n) := by
  unfold zO.m
  rw [VK K t p n hn hp hl hK]
  cases h : xy t p n with
  | error e =>
    have he := xa h
    subst he
    rfl
  | ok x =>
    obtain ⟨v, q⟩ := x
    obtain ⟨hv, _, _⟩ := xd h
    have hlt := Qx t p n
    have hpow : 2 ^ n ≤ 2 ^ 32 := Nat.pow_le_pow_right (by decide) hn
    simp only [qN.bind_ok, yw.m]
    have h2 : ((0 : Int) != 0) = false := rfl
    rw [h2, cond_false]
    simp only [qN.bind_ok, qC, vh, two]
    rw [zg (by omega) (by omega)]
theorem Za (K : Nat) (l : List Int) (t : List UInt8) (p : Nat) (out : List Int) (Xg : Int) (h : XD l) (hl : t.length < 140737488355328) (hK : 32 < K) (hp : p ≤ 8 * t.length) :
    xL.m K ⟨⟨⟨p⟩, t⟩, out, Xg⟩ ⟨Zk l, xi l 16⟩ = vh two (jI l t p) := by
  unfold xL.m
  rw [B9 K l t p h hl hK hp]
  cases hs : jI l t p with
  | error e =>
    rcases ji hs with rfl | rfl <;> rfl
  | ok x =>
    obtain ⟨s, q⟩ := x
    simp only [qN.bind_ok, yw.m]
    have h2 : ((0 : Int) != 0) = false := rfl
    rw [h2, cond_false]
    rfl
end Go.Pu

namespace Go.Pu
open Go Go.Sl Go.Mo
def xI (s : List UInt8) (i : Nat) : Nat := (s.getD i 0).toNat
theorem yN (s : List UInt8) (i : Nat) : xI s i < 256 := (s.getD i 0).toNat_lt
theorem Zz {s : List UInt8} {i : Nat} : ((rd s (i : Int)).toNat : Int) = (xI s i : Int) := by
  simp only [rd, xI, Int.toNat_natCast]; rfl
def jd (t : List UInt8) (L p : Nat) (out : List Int) : Except Int (Nat × List Int) :=
  match yJ t p 4 with
  | .error e => .error e
  | .ok (h, q) =>
    if xI h 2 + 256 * xI h 3 = 65535 - (xI h 0 + 256 * xI h 1) then
      match yJ t q (xI h 0 + 256 * xI h 1) with
      | .error e => .error e
      | .ok (s, q') => if out.length + (xI h 0 + 256 * xI h 1) ≤ L then .ok (q', out ++ s.map vA) else .error 11
    else .error 3
theorem Qa {t : List UInt8} {p n : Nat} {e : Int} (h : yJ t p n = .error e) : e = 2 := by
  unfold yJ at h
  split at h
  · cases h
  · cases h; rfl
theorem QM {t : List UInt8} {p n : Nat} {s : List UInt8} {q : Nat} (h : yJ t p n = .ok (s, q)) : s.length = n ∧ q = 8 * ((p + 7) / 8 + n) ∧ q ≤ 8 * t.length := by
  unfold yJ at h
  split at h
  · obtain ⟨h1, h2⟩ := Prod.mk.inj (Except.ok.inj h)
    subst h1; subst h2
    refine ⟨?_, rfl, by omega⟩
    simp; omega
  · cases h
end Go.Pu
namespace Go.Pu
open Go Go.Sl Go.Mo
theorem VF {a b : Nat} (ha : a < 256) (hb : b < 256) : QS .i64 (wr .i64 (a : Int)) (z8 .i64 (wr .i64 (b : Int)) 8) = ((a + 256 * b : Nat) : Int) := by
  rw [zg (by omega) (by omega), zg (by omega) (by omega)]
  have e1 : z8 .i64 (b : Int) 8 = ((b * 2 ^ 8 : Nat) : Int) := jP (n := 8) (by omega) (by omega)
  rw [e1, U6 (by omega) (by omega)]
  congr 1
  have := Nat.two_pow_add_eq_or_of_lt (i := 8) (b := a) (by omega) b
  rw [Nat.or_comm, Nat.mul_comm b (2 ^ 8), ← this]; omega
theorem GC {n : Nat} (h : n < 65536) : ub .i64 (n : Int) 65535 = ((65535 - n : Nat) : Int) := by
  have e1 := BE (a := n) (b := 65535) (by omega) (by omega)
  rw [show ((65535 : Nat) : Int) = 65535 from rfl] at e1
  rw [e1]
  congr 1
  have h1 : (BitVec.ofNat 16 n ^^^ BitVec.allOnes 16) = ~~~ BitVec.ofNat 16 n := BitVec.xor_allOnes
  have h2 := congrArg BitVec.toNat h1
  rw [BitVec.toNat_xor, BitVec.toNat_not, BitVec.toNat_ofNat, Nat.mod_eq_of_lt (by omega)] at h2
  exact h2
theorem jB (K : Nat) (b : Bool) (e : Int) : zL.m K b e = if b then .pan (.iface xD (.agg ⟨[.int .i64 e]⟩)) else .ok () := by
  unfold zL.m
  cases b <;> rfl
theorem Jg (K : Nat) : yw.m K 0 = .ok () := rfl
theorem UB (K : Nat) (t : List UInt8) (L p : Nat) (out : List Int) (hp : p ≤ 8 * t.length) (hl : t.length < 140737488355328) (ho : out.length < 1099511627776) :
    x8.m K ⟨⟨⟨p⟩, t⟩, out, L⟩ = vh (fun x => ((x.1 : Int), x.2)) (jd t L p out) := by
  unfold x8.m jd
  have hb := Je K t p 4 hp hl (by omega)
  rw [show ((4 : Nat) : Int) = 4 from rfl] at hb
  simp only [hb]
  cases h : yJ t p 4 with
  | error e =>
    have he := Qa h
    subst he
    rfl
  | ok x =>
    obtain ⟨s, q⟩ := x
    obtain ⟨hs, _, hq⟩ := QM h
    simp only [qN.bind_ok, Jg]
    rw [show inb 0 s.length = true from z7 (i := 0) (by omega), show inb 1 s.length = true from z7 (i := 1) (by omega), show inb 2 s.length = true from z7 (i := 2) (by omega), show inb 3 s.length = true from z7 (i := 3) (by omega)]
    simp only [qf, qC]
    have r0 : ((rd s 0).toNat : Int) = (xI s 0 : Int) := Zz (i := 0)
    have r1 : ((rd s 1).toNat : Int) = (xI s 1 : Int) := Zz (i := 1)
    have r2 : ((rd s 2).toNat : Int) = (xI s 2 : Int) := Zz (i := 2)
    have r3 : ((rd s 3).toNat : Int) = (xI s 3 : Int) := Zz (i := 3)
    have l0 := yN s 0
    have l1 := yN s 1
    have l2 := yN s 2
    have l3 := yN s 3
    rw [r0, r1, r2, r3, VF l0 l1, VF l2 l3]
    generalize hn : xI s 0 + 256 * xI s 1 = n
    generalize hm : xI s 2 + 256 * xI s 3 = m
    have hn16 : n < 65536 := by omega
    rw [GC hn16, jB]
    by_cases hc : m = 65535 - n
    · have h1 : (((m : Nat) : Int) != ((65535 - n : Nat) : Int)) = false := by rw [bne_eq_false_iff_eq, hc]
      rw [h1, if_neg (by simp), if_pos hc]
      simp only [qN.bind_ok]
      have hb2 := Je K t q n hq hl (by omega)
      rw [hb2]
      cases h2 : yJ t q n with
      | error e =>
        have he := Qa h2
        subst he
        rfl
      | ok y =>
        obtain ⟨s2, q2⟩ := y
        obtain ⟨hs2, _, hq2⟩ := QM h2
        simp only [qN.bind_ok, Jg]
        have e1 : qg ((out.length : Int) + (n : Int)) = ((out.length + n : Nat) : Int) := by rw [qs (by omega) (by omega)]; push_cast; rfl
        simp only [e1, jB]
        by_cases hL : out.length + n ≤ L
        · have h3 : decide (((out.length + n : Nat) : Int) > (L : Int)) = false := by simp only [decide_eq_false_iff_not]; omega
          rw [h3, if_neg (by simp), if_pos hL]
          have h4 : room (out.length + s2.length) 1 = true := by simp only [room, decide_eq_true_eq]; omega
          simp only [qN.bind_ok]
          rw [h4]
          rfl
        · have h3 : decide (((out.length + n : Nat) : Int) > (L : Int)) = true := by simp only [decide_eq_true_eq]; omega
          rw [h3, if_pos rfl, if_neg hL]
          rfl
    · have h1 : (((m : Nat) : Int) != ((65535 - n : Nat) : Int)) = true := by rw [bne_iff_ne]; omega
      rw [h1, if_pos rfl, if_neg hc]
      rfl
end Go.Pu

namespace Go.Pu
open Go Go.Sl Go.Mo
def My (m : qN (Int × Int × List Int)) (s : Except Int (Nat × List Int)) : Prop :=
  match s with
  | .ok (q, out) => m = .ok (0, (q : Int), out)
  | .error e => if e = -1 then m = .fail else ∃ p out, m = .ok (e, p, out) ∧ e ≠ 0
end Go.Pu

namespace Go.Pu
open Go Go.Sl Go.Mo
theorem zZ {i : Int} {n : Nat} (h0 : 0 ≤ i) (h1 : i < (n : Int)) : inb i n = true := uk.2 ⟨h0, h1⟩
theorem zi {lo hi : Int} {n : Nat} (h0 : 0 ≤ lo) (h1 : lo ≤ hi) (h2 : hi ≤ (n : Int)) : subok lo hi n = true := uJ.2 ⟨h0, h1, h2⟩
theorem zh {n k : Nat} (h : n * k ≤ 140737488355328) : room n k = true := decide_eq_true h
theorem zD {n : Nat} (h : n ≤ 9223372036854775807) : Vj n = true := decide_eq_true h
theorem zQ {x : Int} (h : 0 ≤ x) : decide (0 ≤ x) = true := decide_eq_true h
section
variable {α : Type}
theorem qq {p : Prop} [Decidable p] (a b : α) : cond (decide p) a b = if p then a else b := by
  by_cases h : p <;> simp [h]
theorem qY {x y : Int} (a b : α) : cond (x == y) a b = if x = y then a else b := by
  by_cases h : x = y
  · rw [if_pos h, beq_iff_eq.2 h]; rfl
  · rw [if_neg h, beq_eq_false_iff_ne.2 h]; rfl
theorem zr {x y : Int} (a b : α) : cond (x != y) a b = if x = y then b else a := by
  by_cases h : x = y
  · rw [if_pos h, bne_eq_false_iff_eq.2 h]; rfl
  · rw [if_neg h, bne_iff_ne.2 h]; rfl
theorem zp (x : Bool) (a b : α) : cond (!x) a b = cond x b a := by cases x <;> rfl
theorem zn (x y : Bool) (a b : α) : cond (x && y) a b = cond x (cond y a b) b := by cases x <;> rfl
theorem zG (x y : Bool) (a b : α) : cond (x || y) a b = cond x a (cond y a b) := by cases x <;> rfl
end
end Go.Pu

namespace Go.Pu
open Go Go.Sl Go.Mo
def lenT : List (Nat × Nat) := tab_inflate_lengths.map fun r => (r.from_.toNat, r.bits_.toNat)
def dstT : List (Nat × Nat) := tab_inflate_distances.map fun r => (r.from_.toNat, r.bits_.toNat)
def lenOf (x : Nat) : Nat × Nat := lenT.getD (x - 257) (0, 0)
def yy (x : Nat) : Nat × Nat := dstT.getD x (0, 0)
def ug : Nat → Nat → List Int → List Int
  | 0, _, out => out
  | n + 1, b, out => ug n b (out ++ [out.getD (out.length - b) 0])
def jR (t : List UInt8) (L : Nat) (dl : List Int) (x p : Nat) (out : List Int) : Except Int (Nat × List Int) :=
  if x ≤ 285 then
    match xy t p (lenOf x).2 with
    | .error e => .error e
    | .ok (v, p1) =>
      match jI dl t p1 with
      | .error e => .error e
      | .ok (d, p2) =>
        if d ≤ 29 then
          match xy t p2 (yy d).2 with
          | .error e => .error e
          | .ok (u, p3) =>
            if (yy d).1 + u ≤ out.length then
              if out.length + ((lenOf x).1 + v) ≤ L then .ok (p3, ug ((lenOf x).1 + v) ((yy d).1 + u) out) else .error 11
            else .error 3
        else .error 3
  else .error 3
def jz (t : List UInt8) (L : Nat) (ll dl : List Int) : Nat → Nat → List Int → Except Int (Nat × List Int)
  | 0, _, _ => .error (-1)
  | k + 1, p, out =>
    match jI ll t p with
    | .error e => .error e
    | .ok (x, q) =>
      if x = 256 then .ok (q, out)
      else if x < 256 then (if out.length < L then jz t L ll dl k q (out ++ [(x : Int)]) else .error 11)
      else match jR t L dl x q out with
        | .error e => .error e
        | .ok (q', out') => jz t L ll dl k q' out'
theorem uA : ∀ n b out, (ug n b out).length = out.length + n
  | 0, _, _ => rfl
  | n + 1, b, out => by rw [ug, uA n b]; simp; omega
theorem BM : ∀ k, k < 29 → (lenOf (257 + k)).1 ≤ 258 ∧ 3 ≤ (lenOf (257 + k)).1 ∧ (lenOf (257 + k)).2 ≤ 5 := by decide
theorem Bs : ∀ k, k < 30 → (yy k).1 ≤ 24577 ∧ 1 ≤ (yy k).1 ∧ (yy k).2 ≤ 13 := by decide
theorem UP : ∀ k : Nat, k < 29 → (rd tab_inflate_lengths (k : Int)).from_ = ((lenOf (257 + k)).1 : Int) ∧ (rd tab_inflate_lengths (k : Int)).bits_ = ((lenOf (257 + k)).2 : Int) := by decide
theorem UO : ∀ k : Nat, k < 30 → (rd tab_inflate_distances (k : Int)).from_ = ((yy k).1 : Int) ∧ (rd tab_inflate_distances (k : Int)).bits_ = ((yy k).2 : Int) := by decide
theorem Kg (K : Nat) (t : List UInt8) (p a b : Nat) (out : List Int) (Xg : Int) (hb : b ≤ 32) (ha : a < 140737488355328) (hp : p ≤ 8 * t.length) (hl : t.length < 140737488355328) (hK : 32 < K) :
    ya.m K ⟨⟨⟨p⟩, t⟩, out, Xg⟩ ⟨a, b⟩ = vh (fun x => (((a + x.1 : Nat) : Int), (x.2 : Int))) (xy t p b) := by
  unfold ya.m
  dsimp only
  rw [yI K t p b out Xg hb hp hl hK]
  cases h : xy t p b with
  | error e => rw [xa h]; rfl
  | ok x =>
    obtain ⟨v, q⟩ := x
    obtain ⟨hv, _, _⟩ := xd h
    have hlt := Qx t p b
    have hpow : 2 ^ b ≤ 2 ^ 32 := Nat.pow_le_pow_right (by decide) hb
    simp only [vh, two, qN.bind_ok]
    simp (disch := omega) only [qN.bind_ok, qN.bind_pan, qf, qC, zq, cond_true, cond_false, qq, qY, zr, zp, zn, zG, qs, zB, zb, ze, zg, zZ, zi, zh, zD, zQ, Int.toNat_natCast, Int.natCast_add]
theorem ve {l : List Int} {i : Nat} : rd l (i : Int) = l.getD i 0 := by
  simp only [rd, Int.toNat_natCast]; rfl
theorem QA (K : Nat) (g : Int → List Int → qN (Int × List Int)) (n b : Nat) (q : Int) (hb : 0 < b) (hn : n < 140737488355328) : ∀ j k i out, i + j = n → j < k → b ≤ out.length → out.length + j < 140737488355328 →
    qV.l2 K g (n : Int) (b : Int) q k out (i : Int) = g q (ug j b out)
  | _, 0, _, _, _, h, _, _ => by omega
  | 0, k + 1, i, out, hi, _, _, _ => by
    rw [qV.l2]
    simp (disch := omega) only [qN.bind_ok, qN.bind_pan, qf, qC, zq, cond_true, cond_false, qq, qY, zr, zp, zn, zG, qs, zB, zb, ze, zg, zZ, zi, zh, zD, zQ, Int.toNat_natCast, if_neg, ug]
  | j + 1, k + 1, i, out, hi, hk, hbo, ho => by
    rw [qV.l2]
    have e : qg ((out.length : Int) - (b : Int)) = ((out.length - b : Nat) : Int) := by rw [qs (by omega) (by omega)]; omega
    rw [e, ve]
    have h1 : room (out.length + ([out.getD (out.length - b) 0] : List Int).length) 1 = true := zh (by simp; omega)
    rw [h1]
    simp (disch := omega) only [qN.bind_ok, qN.bind_pan, qf, qC, zq, cond_true, cond_false, qq, qY, zr, zp, zn, zG, qs, zB, zb, ze, zg, zZ, zi, zh, zD, zQ, Int.toNat_natCast, if_pos]
    have e2 : (i : Int) + 1 = ((i + 1 : Nat) : Int) := by push_cast; rfl
    rw [e2, QA K g n b q hb hn j k (i + 1) _ (by omega) (by omega) (by simp; omega) (by simp; omega), ug]
end Go.Pu

namespace Go.Pu
open Go Go.Sl Go.Mo
theorem Yp {p : Prop} [Decidable p] (K : Nat) (e : Int) : zL.m K (decide p) e = if p then .pan (.iface xD (.agg ⟨[.int .i64 e]⟩)) else .ok () := by
  rw [jB]; by_cases h : p <;> simp [h]
theorem Zb {x y : Int} (K : Nat) (e : Int) : zL.m K (x == y) e = if x = y then .pan (.iface xD (.agg ⟨[.int .i64 e]⟩)) else .ok () := by
  rw [jB]
  by_cases h : x = y
  · rw [if_pos h, beq_iff_eq.2 h]; rfl
  · rw [if_neg h, beq_eq_false_iff_ne.2 h]; rfl
theorem Yo {x y : Int} (K : Nat) (e : Int) : zL.m K (x != y) e = if x = y then .ok () else .pan (.iface xD (.agg ⟨[.int .i64 e]⟩)) := by
  rw [jB]
  by_cases h : x = y
  · rw [if_pos h, bne_eq_false_iff_eq.2 h]; rfl
  · rw [if_neg h, bne_iff_ne.2 h]; rfl
def Gf {α : Type} (e : Int) : qN α := .pan (.iface xD (.agg ⟨[.int .i64 e]⟩))
theorem Dc {α : Type} (e : Int) : (qN.pan (.iface xD (.agg ⟨[.int .i64 e]⟩)) : qN α) = Gf e := rfl
theorem QB {α β : Type} (e : Int) (f : α → qN β) : (Gf e).bind f = Gf e := rfl
theorem ja {α β : Type} {f : β → α} {e : Int} (h : e ≠ -1) : vh f (.error e) = Gf e := by
  simp only [vh, if_neg h, Gf]
theorem yl {α β : Type} {f : β → α} {b : β} : vh f (.ok b) = .ok (f b) := rfl
def B0 (x : Nat × List Int) : Int × List Int := ((x.1 : Int), x.2)
theorem uP {t : List UInt8} {p n v q : Nat} (h : xy t p n = .ok (v, q)) : v < 2 ^ n := by
  rw [(xd h).1]; exact Qx t p n
theorem vX (K : Nat) (t : List UInt8) (L : Nat) (ll dl : List Int) (p0 : Int) (o0 : List Int) (hll : XD ll) (hdl : XD dl) (hl : t.length < 140737488355328) (hL : L < 1073741825) (hK : 1000 < K) : ∀ k p out, p ≤ 8 * t.length → out.length ≤ L →
    qV.l1 K ⟨⟨⟨p0⟩, t⟩, o0, L⟩ ⟨Zk ll, xi ll 16⟩ ⟨Zk dl, xi dl 16⟩ k (p : Int) out = vh B0 (jz t L ll dl k p out)
  | 0, _, _, _, _ => rfl
  | k + 1, p, out, hp, ho => by
    rw [qV.l1, jz]
    dsimp only
    rw [Za K ll t p out L hll hl (by omega) hp]
    cases hx : jI ll t p with
    | error e => rcases ji hx with rfl | rfl <;> rfl
    | ok xq =>
      obtain ⟨x, q⟩ := xq
      have hq := (jG hx).2
      simp only [yl, two]
      simp (disch := omega) only [qN.bind_ok, qN.bind_pan, qf, qC, zq, cond_true, cond_false, qq, qY, zr, zp, zn, zG, qs, zB, zb, ze, zg, zZ, zi, zh, zD, zQ, Int.toNat_natCast]
      by_cases h1 : x = 256
      · simp (disch := omega) only [qN.bind_ok, qN.bind_pan, qf, qC, zq, cond_true, cond_false, qq, qY, zr, zp, zn, zG, qs, zB, zb, ze, zg, zZ, zi, zh, zD, zQ, Int.toNat_natCast, if_pos, h1]
        rfl
      · simp (disch := omega) only [qN.bind_ok, qN.bind_pan, qf, qC, zq, cond_true, cond_false, qq, qY, zr, zp, zn, zG, qs, zB, zb, ze, zg, zZ, zi, zh, zD, zQ, Int.toNat_natCast, if_neg, h1, if_false]
        by_cases h2 : x < 256
        · simp (disch := omega) only [qN.bind_ok, qN.bind_pan, qf, qC, zq, cond_true, cond_false, qq, qY, zr, zp, zn, zG, qs, zB, zb, ze, zg, zZ, zi, zh, zD, zQ, Int.toNat_natCast, if_pos, h2, if_true, Zb, Dc]
          by_cases h3 : out.length < L
          · have h4 : room (out.length + ([(x : Int)] : List Int).length) 1 = true := zh (by simp; omega)
            simp (disch := omega) only [qN.bind_ok, qN.bind_pan, qf, qC, zq, cond_true, cond_false, qq, qY, zr, zp, zn, zG, qs, zB, zb, ze, zg, zZ, zi, zh, zD, zQ, Int.toNat_natCast, if_neg, if_pos, h4, h3, if_true]
            exact vX K t L ll dl p0 o0 hll hdl hl hL hK k q _ hq (by simp; omega)
          · simp (disch := omega) only [qN.bind_ok, qN.bind_pan, qf, qC, zq, cond_true, cond_false, qq, qY, zr, zp, zn, zG, qs, zB, zb, ze, zg, zZ, zi, zh, zD, zQ, Int.toNat_natCast, if_pos, if_neg, h3, if_false, QB, ja]
        · simp (disch := omega) only [qN.bind_ok, qN.bind_pan, qf, qC, zq, cond_true, cond_false, qq, qY, zr, zp, zn, zG, qs, zB, zb, ze, zg, zZ, zi, zh, zD, zQ, Int.toNat_natCast, if_neg, h2, if_false, Yp, Dc, jR]
          by_cases h3 : x ≤ 285
          · obtain ⟨k1, rfl⟩ : ∃ k1, x = 257 + k1 := ⟨x - 257, by omega⟩
            have e1 : ((257 + k1 : Nat) : Int) - 257 = (k1 : Int) := by omega
            obtain ⟨t1, t2⟩ := UP k1 (by omega)
            obtain ⟨b1, _, b2⟩ := BM k1 (by omega)
            simp (disch := omega) only [qN.bind_ok, qN.bind_pan, qf, qC, zq, cond_true, cond_false, qq, qY, zr, zp, zn, zG, qs, zB, zb, ze, zg, zZ, zi, zh, zD, zQ, Int.toNat_natCast, if_neg, h3, if_true, e1, t1, t2]
            rw [Kg K t q _ _ out L (by omega) (by omega) hq hl (by omega)]
            cases hv : xy t q (lenOf (257 + k1)).2 with
            | error e => rw [xa hv]; rfl
            | ok vq =>
              obtain ⟨v, q1⟩ := vq
              have hq1 := (xd hv).2.2
              have hv2 := uP hv
              have hv3 : 2 ^ (lenOf (257 + k1)).2 ≤ 2 ^ 5 := Nat.pow_le_pow_right (by decide) b2
              simp only [yl]
              simp (disch := omega) only [qN.bind_ok, qN.bind_pan, qf, qC, zq, cond_true, cond_false, qq, qY, zr, zp, zn, zG, qs, zB, zb, ze, zg, zZ, zi, zh, zD, zQ, Int.toNat_natCast]
              rw [Za K dl t q1 out L hdl hl (by omega) hq1]
              cases hd : jI dl t q1 with
              | error e => rcases ji hd with rfl | rfl <;> rfl
              | ok dq =>
                obtain ⟨d, q2⟩ := dq
                have hq2 := (jG hd).2
                simp only [yl, two]
                simp (disch := omega) only [qN.bind_ok, qN.bind_pan, qf, qC, zq, cond_true, cond_false, qq, qY, zr, zp, zn, zG, qs, zB, zb, ze, zg, zZ, zi, zh, zD, zQ, Int.toNat_natCast]
                by_cases h4 : d ≤ 29
                · obtain ⟨t3, t4⟩ := UO d (by omega)
                  obtain ⟨b3, b4, b5⟩ := Bs d (by omega)
                  simp (disch := omega) only [qN.bind_ok, qN.bind_pan, qf, qC, zq, cond_true, cond_false, qq, qY, zr, zp, zn, zG, qs, zB, zb, ze, zg, zZ, zi, zh, zD, zQ, Int.toNat_natCast, if_neg, h4, if_true, t3, t4]
                  rw [Kg K t q2 _ _ out L (by omega) (by omega) hq2 hl (by omega)]
                  cases hu : xy t q2 (yy d).2 with
                  | error e => rw [xa hu]; rfl
                  | ok uq =>
                    obtain ⟨u, q3⟩ := uq
                    have hq3 := (xd hu).2.2
                    simp only [yl]
                    simp (disch := omega) only [qN.bind_ok, qN.bind_pan, qf, qC, zq, cond_true, cond_false, qq, qY, zr, zp, zn, zG, qs, zB, zb, ze, zg, zZ, zi, zh, zD, zQ, Int.toNat_natCast]
                    by_cases h5 : (yy d).1 + u ≤ out.length
                    · simp (disch := omega) only [qN.bind_ok, qN.bind_pan, qf, qC, zq, cond_true, cond_false, qq, qY, zr, zp, zn, zG, qs, zB, zb, ze, zg, zZ, zi, zh, zD, zQ, Int.toNat_natCast, if_neg, h5, if_true]
                      by_cases h6 : out.length + ((lenOf (257 + k1)).1 + v) ≤ L
                      · simp (disch := omega) only [qN.bind_ok, qN.bind_pan, qf, qC, zq, cond_true, cond_false, qq, qY, zr, zp, zn, zG, qs, zB, zb, ze, zg, zZ, zi, zh, zD, zQ, Int.toNat_natCast, if_neg, h6, if_true]
                        rw [show (0 : Int) = ((0 : Nat) : Int) from rfl, QA K _ _ _ _ (by omega) (by omega) ((lenOf (257 + k1)).1 + v) K 0 out (by omega) (by omega) h5 (by omega)]
                        exact vX K t L ll dl p0 o0 hll hdl hl hL hK k q3 _ hq3 (by rw [uA]; omega)
                      · simp (disch := omega) only [qN.bind_ok, qN.bind_pan, qf, qC, zq, cond_true, cond_false, qq, qY, zr, zp, zn, zG, qs, zB, zb, ze, zg, zZ, zi, zh, zD, zQ, Int.toNat_natCast, if_pos, h6, if_false, QB, ja]
                    · simp (disch := omega) only [qN.bind_ok, qN.bind_pan, qf, qC, zq, cond_true, cond_false, qq, qY, zr, zp, zn, zG, qs, zB, zb, ze, zg, zZ, zi, zh, zD, zQ, Int.toNat_natCast, if_pos, h5, if_false, QB, ja]
                · simp (disch := omega) only [qN.bind_ok, qN.bind_pan, qf, qC, zq, cond_true, cond_false, qq, qY, zr, zp, zn, zG, qs, zB, zb, ze, zg, zZ, zi, zh, zD, zQ, Int.toNat_natCast, if_pos, h4, if_false, QB, ja]
          · simp (disch := omega) only [qN.bind_ok, qN.bind_pan, qf, qC, zq, cond_true, cond_false, qq, qY, zr, zp, zn, zG, qs, zB, zb, ze, zg, zZ, zi, zh, zD, zQ, Int.toNat_natCast, if_pos, h3, if_false, QB, ja]
end Go.Pu

namespace Go.Pu
open Go Go.Sl Go.Mo
def M0 (r : qN (Int × Int)) (a b : Nat) : Bool := match r with
  | .ok (x, y) => x == (a : Int) && y == (b : Int)
  | _ => false
theorem Jm {t : List UInt8} {L : Nat} {dl : List Int} {x p q : Nat} {out o : List Int} (h : jR t L dl x p out = .ok (q, o)) : p < q ∧ q ≤ 8 * t.length ∧ o.length ≤ L := by
  unfold jR at h
  split at h
  · split at h
    · cases h
    · rename_i v p1 hv
      split at h
      · cases h
      · rename_i d p2 hd
        split at h
        · split at h
          · cases h
          · rename_i u p3 hu
            split at h
            · split at h
              · obtain ⟨h1, h2⟩ := Prod.mk.inj (Except.ok.inj h)
                subst h1; subst h2
                have a := xd hv
                have b := jG hd
                have c := xd hu
                rw [uA]
                omega
              · cases h
            · cases h
        · cases h
  · cases h
theorem UH {t : List UInt8} {L : Nat} {dl : List Int} {x p : Nat} {out : List Int} {e : Int} (h : jR t L dl x p out = .error e) : e = 2 ∨ e = 3 ∨ e = 11 := by
  unfold jR at h
  split at h
  · split at h
    · rename_i hv; cases h; exact .inl (xa hv)
    · split at h
      · rename_i hd; cases h; rcases ji hd with rfl | rfl <;> decide
      · split at h
        · split at h
          · rename_i hu; cases h; exact .inl (xa hu)
          · split at h
            · split at h
              · cases h
              · cases h; decide
            · cases h; decide
        · cases h; decide
  · cases h; decide
end Go.Pu

namespace Go.Pu
open Go Go.Sl Go.Mo
theorem vH (K : Nat) (l : List Int) (hK : 320 < K) : yj.m K l = if xe l = 0 then .ok (some ⟨Zk l, xi l 16⟩) else Gf 3 := by
  unfold yj.m
  rw [Gb K l hK]
  by_cases h : xe l = 0
  · rw [if_pos h, if_pos h]
    simp (disch := omega) only [qN.bind_ok, qN.bind_pan, qf, qC, zq, cond_true, cond_false, qq, qY, zr, zp, zn, zG, qs, zB, zb, ze, zg, zZ, zi, zh, zD, zQ, Int.toNat_natCast, Yo, if_true]
  · rw [if_neg h, if_neg h]
    simp (disch := omega) only [qN.bind_ok, qN.bind_pan, qf, qC, zq, cond_true, cond_false, qq, qY, zr, zp, zn, zG, qs, zB, zb, ze, zg, zZ, zi, zh, zD, zQ, Int.toNat_natCast, Yo, if_neg h]
    rfl
def fixL : List Int := (List.range 288).map fun i => if i < 144 ∨ 279 < i then 8 else if i < 256 then 9 else 7
def fixD : List Int := List.replicate 32 5
theorem XA : xe fixL = 0 := by decide +kernel
theorem Xz : xe fixD = 0 := by decide +kernel
theorem Ux (m : Nat) : zt.m (m + 300) = zt.j5 (m + 300) fixL fixD := by kernel_rfl
theorem KT (K : Nat) (hK : 1000 < K) : zt.m K = .ok (some ⟨Zk fixL, xi fixL 16⟩, some ⟨Zk fixD, xi fixD 16⟩) := by
  obtain ⟨m, rfl⟩ : ∃ m, K = m + 300 := ⟨K - 300, by omega⟩
  rw [Ux, zt.j5, vH _ _ (by omega), vH _ _ (by omega), if_pos XA, if_pos Xz]
  rfl
def vx (t : List UInt8) (c : List Int) (n : Nat) : Nat → Nat → List Int → Except Int (Nat × List Int)
  | 0, _, _ => .error (-1)
  | k + 1, p, out =>
    if out.length < n then
      match jI c t p with
      | .error e => .error e
      | .ok (x, q) =>
        if x < 16 then vx t c n k q (out ++ [(x : Int)])
        else if x = 16 then
          if out.length = 0 then .error 3
          else match xy t q 2 with
            | .error e => .error e
            | .ok (v, q') => if out.length + (3 + v) ≤ n then vx t c n k q' (out ++ List.replicate (3 + v) (out.getD (out.length - 1) 0)) else .error 3
        else if x = 17 then
          match xy t q 3 with
          | .error e => .error e
          | .ok (v, q') => if out.length + (3 + v) ≤ n then vx t c n k q' (out ++ List.replicate (3 + v) 0) else .error 3
        else
          match xy t q 7 with
          | .error e => .error e
          | .ok (v, q') => if out.length + (11 + v) ≤ n then vx t c n k q' (out ++ List.replicate (11 + v) 0) else .error 3
    else .ok (p, out)
theorem Yk (K : Nat) (g : Int → List Int → qN (List Int × Int)) (v : Int) (n : Nat) (q : Int) (hn : n < 140737488355328) : ∀ j k i out, i + j = n → j < k → out.length + j < 1000000 →
    qO.l3 K g q v (n : Int) k out (i : Int) = g q (out ++ List.replicate j v)
  | _, 0, _, _, _, h, _ => by omega
  | 0, k + 1, i, out, hi, _, _ => by
    rw [qO.l3]
    simp (disch := omega) only [qN.bind_ok, qN.bind_pan, qf, qC, zq, cond_true, cond_false, qq, qY, zr, zp, zn, zG, qs, zB, zb, ze, zg, zZ, zi, zh, zD, zQ, Int.toNat_natCast, if_neg, List.replicate_zero, List.append_nil]
  | j + 1, k + 1, i, out, hi, hk, ho => by
    rw [qO.l3]
    have h1 : room (out.length + ([v] : List Int).length) 8 = true := zh (by simp; omega)
    rw [h1]
    simp (disch := omega) only [qN.bind_ok, qN.bind_pan, qf, qC, zq, cond_true, cond_false, qq, qY, zr, zp, zn, zG, qs, zB, zb, ze, zg, zZ, zi, zh, zD, zQ, Int.toNat_natCast, if_pos]
    have e2 : (i : Int) + 1 = ((i + 1 : Nat) : Int) := by push_cast; rfl
    rw [e2, Yk K g v n q hn j k (i + 1) _ (by omega) (by omega) (by simp; omega), List.replicate_succ, List.append_assoc]
    rfl
theorem u6 (K : Nat) (g : Int → List Int → qN (List Int × Int)) (v : Int) (n m : Nat) (q : Int) (out : List Int) (hn : n < 400) (ho : out.length < n) (hm : m < 300) (hK : 1000 < K) :
    qO.j2 K g (n : Int) out q v (m : Int) = if out.length + m ≤ n then g q (out ++ List.replicate m v) else Gf 3 := by
  unfold qO.j2
  simp (disch := omega) only [qN.bind_ok, qN.bind_pan, qf, qC, zq, cond_true, cond_false, qq, qY, zr, zp, zn, zG, qs, zB, zb, ze, zg, zZ, zi, zh, zD, zQ, Int.toNat_natCast, Yp]
  by_cases h : out.length + m ≤ n
  · simp (disch := omega) only [qN.bind_ok, qN.bind_pan, qf, qC, zq, cond_true, cond_false, qq, qY, zr, zp, zn, zG, qs, zB, zb, ze, zg, zZ, zi, zh, zD, zQ, Int.toNat_natCast, if_neg, h, if_true]
    exact Yk K g v m q (by omega) m K 0 out (by omega) (by omega) (by omega)
  · simp (disch := omega) only [qN.bind_ok, qN.bind_pan, qf, qC, zq, cond_true, cond_false, qq, qY, zr, zp, zn, zG, qs, zB, zb, ze, zg, zZ, zi, zh, zD, zQ, Int.toNat_natCast, if_pos, h, if_false]
    rfl
def GL (x : Nat × List Int) : List Int × Int := (x.2, (x.1 : Int))
theorem UA (K : Nat) (t : List UInt8) (c : List Int) (n : Nat) (p0 : Int) (o0 : List Int) (Xg : Int) (hc : XD c) (hl : t.length < 140737488355328) (hn : n < 400) (hK : 1000 < K) : ∀ k p out, p ≤ 8 * t.length → out.length ≤ n →
    qO.l1 K ⟨⟨⟨p0⟩, t⟩, o0, Xg⟩ n ⟨Zk c, xi c 16⟩ k (p : Int) out = vh GL (vx t c n k p out) := by
  intro k
  induction k with
  | zero => intro p out _ _; exact rfl
  | succ k ih =>
    intro p out hp ho
    rw [qO.l1, vx]
    by_cases h0 : out.length < n
    · simp (disch := omega) only [qN.bind_ok, qN.bind_pan, qf, qC, zq, cond_true, cond_false, qq, qY, zr, zp, zn, zG, qs, zB, zb, ze, zg, zZ, zi, zh, zD, zQ, Int.toNat_natCast, if_pos, h0, if_true]
      rw [Za K c t p o0 Xg hc hl (by omega) hp]
      cases hx : jI c t p with
      | error e => rcases ji hx with rfl | rfl <;> rfl
      | ok xq =>
        obtain ⟨x, q⟩ := xq
        have hq := (jG hx).2
        simp only [yl, two]
        simp (disch := omega) only [qN.bind_ok, qN.bind_pan, qf, qC, zq, cond_true, cond_false, qq, qY, zr, zp, zn, zG, qs, zB, zb, ze, zg, zZ, zi, zh, zD, zQ, Int.toNat_natCast]
        by_cases h1 : x < 16
        · simp (disch := omega) only [qN.bind_ok, qN.bind_pan, qf, qC, zq, cond_true, cond_false, qq, qY, zr, zp, zn, zG, qs, zB, zb, ze, zg, zZ, zi, zh, zD, zQ, Int.toNat_natCast, if_pos, h1, if_true]
          rw [show (1 : Int) = ((1 : Nat) : Int) from rfl, u6 K _ _ n 1 _ _ hn h0 (by omega) hK, if_pos (by omega)]
          exact ih q _ hq (by simp; omega)
        · simp (disch := omega) only [qN.bind_ok, qN.bind_pan, qf, qC, zq, cond_true, cond_false, qq, qY, zr, zp, zn, zG, qs, zB, zb, ze, zg, zZ, zi, zh, zD, zQ, Int.toNat_natCast, if_neg, h1, if_false]
          by_cases h2 : x = 16
          · simp (disch := omega) only [qN.bind_ok, qN.bind_pan, qf, qC, zq, cond_true, cond_false, qq, qY, zr, zp, zn, zG, qs, zB, zb, ze, zg, zZ, zi, zh, zD, zQ, Int.toNat_natCast, if_pos, h2, if_true, Zb]
            by_cases h3 : out.length = 0
            · simp (disch := omega) only [qN.bind_ok, qN.bind_pan, qf, qC, zq, cond_true, cond_false, qq, qY, zr, zp, zn, zG, qs, zB, zb, ze, zg, zZ, zi, zh, zD, zQ, Int.toNat_natCast, if_pos, h3, if_true]
              rfl
            · have e1 : (out.length : Int) - 1 = ((out.length - 1 : Nat) : Int) := by omega
              simp (disch := omega) only [qN.bind_ok, qN.bind_pan, qf, qC, zq, cond_true, cond_false, qq, qY, zr, zp, zn, zG, qs, zB, zb, ze, zg, zZ, zi, zh, zD, zQ, Int.toNat_natCast, if_neg, h3, if_false, e1, ve]
              have hb := yI K t q 2 o0 Xg (by omega) hq hl (by omega)
              rw [show ((2 : Nat) : Int) = 2 from rfl] at hb
              rw [hb]
              cases hv : xy t q 2 with
              | error e => rw [xa hv]; rfl
              | ok vq =>
                obtain ⟨v, q1⟩ := vq
                have hq1 := (xd hv).2.2
                have hv2 := uP hv
                simp only [yl, two]
                have e2 : (3 : Int) + (v : Int) = ((3 + v : Nat) : Int) := by push_cast; rfl
                simp (disch := omega) only [qN.bind_ok, qN.bind_pan, qf, qC, zq, cond_true, cond_false, qq, qY, zr, zp, zn, zG, qs, zB, zb, ze, zg, zZ, zi, zh, zD, zQ, Int.toNat_natCast, e2]
                rw [u6 K _ _ n (3 + v) _ _ hn h0 (by omega) hK]
                by_cases h4 : out.length + (3 + v) ≤ n
                · rw [if_pos h4, if_pos h4]
                  exact ih q1 _ hq1 (by simp; omega)
                · rw [if_neg h4, if_neg h4]
                  rfl
          · simp (disch := omega) only [qN.bind_ok, qN.bind_pan, qf, qC, zq, cond_true, cond_false, qq, qY, zr, zp, zn, zG, qs, zB, zb, ze, zg, zZ, zi, zh, zD, zQ, Int.toNat_natCast, if_neg, h2, if_false]
            by_cases h3 : x = 17
            · simp (disch := omega) only [qN.bind_ok, qN.bind_pan, qf, qC, zq, cond_true, cond_false, qq, qY, zr, zp, zn, zG, qs, zB, zb, ze, zg, zZ, zi, zh, zD, zQ, Int.toNat_natCast, if_pos, h3, if_true]
              have hb := yI K t q 3 o0 Xg (by omega) hq hl (by omega)
              rw [show ((3 : Nat) : Int) = 3 from rfl] at hb
              rw [hb]
              cases hv : xy t q 3 with
              | error e => rw [xa hv]; rfl
              | ok vq =>
                obtain ⟨v, q1⟩ := vq
                have hq1 := (xd hv).2.2
                have hv2 := uP hv
                simp only [yl, two]
                have e2 : (3 : Int) + (v : Int) = ((3 + v : Nat) : Int) := by push_cast; rfl
                simp (disch := omega) only [qN.bind_ok, qN.bind_pan, qf, qC, zq, cond_true, cond_false, qq, qY, zr, zp, zn, zG, qs, zB, zb, ze, zg, zZ, zi, zh, zD, zQ, Int.toNat_natCast, e2]
                rw [u6 K _ _ n (3 + v) _ _ hn h0 (by omega) hK]
                by_cases h4 : out.length + (3 + v) ≤ n
                · rw [if_pos h4, if_pos h4]
                  exact ih q1 _ hq1 (by simp; omega)
                · rw [if_neg h4, if_neg h4]
                  rfl
            · simp (disch := omega) only [qN.bind_ok, qN.bind_pan, qf, qC, zq, cond_true, cond_false, qq, qY, zr, zp, zn, zG, qs, zB, zb, ze, zg, zZ, zi, zh, zD, zQ, Int.toNat_natCast, if_neg, h3, if_false]
              have hb := yI K t q 7 o0 Xg (by omega) hq hl (by omega)
              rw [show ((7 : Nat) : Int) = 7 from rfl] at hb
              rw [hb]
              cases hv : xy t q 7 with
              | error e => rw [xa hv]; rfl
              | ok vq =>
                obtain ⟨v, q1⟩ := vq
                have hq1 := (xd hv).2.2
                have hv2 := uP hv
                simp only [yl, two]
                have e2 : (11 : Int) + (v : Int) = ((11 + v : Nat) : Int) := by push_cast; rfl
                simp (disch := omega) only [qN.bind_ok, qN.bind_pan, qf, qC, zq, cond_true, cond_false, qq, qY, zr, zp, zn, zG, qs, zB, zb, ze, zg, zZ, zi, zh, zD, zQ, Int.toNat_natCast, e2]
                rw [u6 K _ _ n (11 + v) _ _ hn h0 (by omega) hK]
                by_cases h4 : out.length + (11 + v) ≤ n
                · rw [if_pos h4, if_pos h4]
                  exact ih q1 _ hq1 (by simp; omega)
                · rw [if_neg h4, if_neg h4]
                  rfl
    · simp (disch := omega) only [qN.bind_ok, qN.bind_pan, qf, qC, zq, cond_true, cond_false, qq, qY, zr, zp, zn, zG, qs, zB, zb, ze, zg, zZ, zi, zh, zD, zQ, Int.toNat_natCast, if_neg, h0, if_false]
      rfl
end Go.Pu

namespace Go.Pu
open Go Go.Sl Go.Mo
def Mh (m : qN (List Int × Int × Int)) (s : Except Int (Nat × List Int)) : Prop :=
  match s with
  | .ok (q, out) => m = .ok (out, 0, (q : Int))
  | .error e => if e = -1 then m = .fail else ∃ p, m = .ok ([], e, p) ∧ e ≠ 0
theorem J0 {t : List UInt8} {c : List Int} {n : Nat} : ∀ {k p out q o}, vx t c n k p out = .ok (q, o) → out.length ≤ n → p ≤ 8 * t.length → o.length = n ∧ p ≤ q ∧ q ≤ 8 * t.length := by
  intro k
  induction k with
  | zero => intro p out q o h; cases h
  | succ k ih =>
    intro p out q o h ho hp
    rw [vx] at h
    split at h
    · split at h
      · cases h
      · rename_i x q1 hx
        have hq := jG hx
        split at h
        · have := ih h (by simp; omega) (by omega); omega
        · split at h
          · split at h
            · cases h
            · split at h
              · cases h
              · rename_i v q2 hv
                have := xd hv
                split at h
                · have := ih h (by simp; omega) (by omega); omega
                · cases h
          · split at h
            · split at h
              · cases h
              · rename_i v q2 hv
                have := xd hv
                split at h
                · have := ih h (by simp; omega) (by omega); omega
                · cases h
            · split at h
              · cases h
              · rename_i v q2 hv
                have := xd hv
                split at h
                · have := ih h (by simp; omega) (by omega); omega
                · cases h
    · obtain ⟨h1, h2⟩ := Prod.mk.inj (Except.ok.inj h)
      subst h1; subst h2; omega
theorem VX {t : List UInt8} {c : List Int} {n : Nat} : ∀ {k p out e}, vx t c n k p out = .error e → e = -1 ∨ e = 2 ∨ e = 3 := by
  intro k
  induction k with
  | zero => intro p out e h; cases h; exact .inl rfl
  | succ k ih =>
    intro p out e h
    rw [vx] at h
    split at h
    · split at h
      · rename_i hx; cases h; exact .inr (ji hx)
      · split at h
        · exact ih h
        · split at h
          · split at h
            · cases h; decide
            · split at h
              · rename_i hv; cases h; rw [xa hv]; decide
              · split at h
                · exact ih h
                · cases h; decide
          · split at h
            · split at h
              · rename_i hv; cases h; rw [xa hv]; decide
              · split at h
                · exact ih h
                · cases h; decide
            · split at h
              · rename_i hv; cases h; rw [xa hv]; decide
              · split at h
                · exact ih h
                · cases h; decide
    · cases h
def ordT : List Nat := [16, 17, 18, 0, 8, 7, 9, 6, 10, 5, 11, 4, 12, 3, 13, 2, 14, 1, 15]
def yX (t : List UInt8) : Nat → Nat → Nat → List Int → Except Int (Nat × List Int)
  | 0, _, p, l => .ok (p, l)
  | m + 1, i, p, l =>
    match xy t p 3 with
    | .error e => .error e
    | .ok (v, q) => yX t m (i + 1) q (l.set (ordT.getD i 0) (v : Int))
def uN : List Int := List.replicate 19 0
def uv (t : List UInt8) (K p : Nat) : Except Int (Nat × List Int × List Int) :=
  match xy t p 5 with
  | .error e => .error e
  | .ok (a, p1) =>
    match xy t p1 5 with
    | .error e => .error e
    | .ok (b, p2) =>
      match xy t p2 4 with
      | .error e => .error e
      | .ok (c, p3) =>
        if a ≤ 29 ∧ b ≤ 29 then
          match yX t (4 + c) 0 p3 uN with
          | .error e => .error e
          | .ok (p4, l) =>
            if l ≠ uN ∧ xe l = 0 then
              match vx t l (258 + a + b) K p4 [] with
              | .error e => .error e
              | .ok (p5, all) =>
                if all.getD 256 0 ≠ 0 ∧ xe (all.take (257 + a)) = 0 ∧ xe (all.drop (257 + a)) = 0 then .ok (p5, all.take (257 + a), all.drop (257 + a)) else .error 3
            else .error 3
        else .error 3
theorem Le : ∀ i : Nat, i < 19 → rd tab_inflate_order (i : Int) = (ordT.getD i 0 : Int) ∧ ordT.getD i 0 < 19 := by decide
theorem ZA {t : List UInt8} : ∀ {m i p l q o}, yX t m i p l = .ok (q, o) → p ≤ 8 * t.length → o.length = l.length ∧ q ≤ 8 * t.length := by
  intro m
  induction m with
  | zero => intro i p l q o h hp; rw [yX] at h; cases h; exact ⟨rfl, hp⟩
  | succ m ih =>
    intro i p l q o h hp
    rw [yX] at h
    split at h
    · cases h
    · rename_i v q1 hv
      have := ih h (xd hv).2.2
      simpa using this
theorem Z1 {t : List UInt8} : ∀ {m i p l e}, yX t m i p l = .error e → e = 2 := by
  intro m
  induction m with
  | zero => intro i p l e h; rw [yX] at h; cases h
  | succ m ih =>
    intro i p l e h
    rw [yX] at h
    split at h
    · rename_i hv; cases h; exact xa hv
    · exact ih h
theorem Yh (K : Nat) (t : List UInt8) (p0 : Int) (o0 : List Int) (Xg : Int) (a b : Int) (some_ : Nat) (hs : some_ ≤ 19) (hl : t.length < 140737488355328) (hK : 1000 < K) : ∀ (j k i p : Nat) (l : List Int), i + j = 19 → j < k → p ≤ 8 * t.length → l.length = 19 →
    zc.l1 K ⟨⟨⟨p0⟩, t⟩, o0, Xg⟩ a b some_ k (p : Int) l (i : Int) = match yX t (some_ - i) i p l with
      | .error e => Gf e
      | .ok (q, l') => zc.j2 K ⟨⟨⟨p0⟩, t⟩, o0, Xg⟩ a b (q : Int) l'
  | _, 0, _, _, _, _, h, _, _ => by omega
  | 0, k + 1, i, p, l, hi, _, hp, hll => by
    rw [zc.l1, show some_ - i = 0 by omega, yX]
    simp (disch := omega) only [qN.bind_ok, qN.bind_pan, qf, qC, zq, cond_true, cond_false, qq, qY, zr, zp, zn, zG, qs, zB, zb, ze, zg, zZ, zi, zh, zD, zQ, Int.toNat_natCast, if_neg]
  | j + 1, k + 1, i, p, l, hi, hk, hp, hll => by
    rw [zc.l1]
    obtain ⟨t1, t2⟩ := Le i (by omega)
    have e2 : (i : Int) + 1 = ((i + 1 : Nat) : Int) := by push_cast; rfl
    simp (disch := omega) only [qN.bind_ok, qN.bind_pan, qf, qC, zq, cond_true, cond_false, qq, qY, zr, zp, zn, zG, qs, zB, zb, ze, zg, zZ, zi, zh, zD, zQ, Int.toNat_natCast, if_pos, t1, e2]
    by_cases h : i < some_
    · simp (disch := omega) only [qN.bind_ok, qN.bind_pan, qf, qC, zq, cond_true, cond_false, qq, qY, zr, zp, zn, zG, qs, zB, zb, ze, zg, zZ, zi, zh, zD, zQ, Int.toNat_natCast, if_pos]
      have hb := yI K t p 3 o0 Xg (by omega) hp hl (by omega)
      rw [show ((3 : Nat) : Int) = 3 from rfl] at hb
      rw [hb, show some_ - i = (some_ - (i + 1)) + 1 by omega, yX]
      cases hv : xy t p 3 with
      | error e => rw [xa hv]; rfl
      | ok vq =>
        obtain ⟨v, q1⟩ := vq
        have hq1 := (xd hv).2.2
        simp only [yl, two]
        simp (disch := omega) only [qN.bind_ok, qN.bind_pan, qf, qC, zq, cond_true, cond_false, qq, qY, zr, zp, zn, zG, qs, zB, zb, ze, zg, zZ, zi, zh, zD, zQ, Int.toNat_natCast]
        exact Yh K t p0 o0 Xg a b some_ hs hl hK j k (i + 1) q1 _ (by omega) (by omega) hq1 (by simp; omega)
    · simp (disch := omega) only [qN.bind_ok, qN.bind_pan, qf, qC, zq, cond_true, cond_false, qq, qY, zr, zp, zn, zG, qs, zB, zb, ze, zg, zZ, zi, zh, zD, zQ, Int.toNat_natCast, if_neg]
      have := Yh K t p0 o0 Xg a b some_ hs hl hK j k (i + 1) p l (by omega) (by omega) hp hll
      rw [show some_ - (i + 1) = 0 by omega] at this
      rw [show some_ - i = 0 by omega]
      exact this
end Go.Pu

namespace Go.Pu
open Go Go.Sl Go.Mo
theorem vn (l : List UInt8) : (l.map vA).map v8 = l := by
  rw [List.map_map]
  have : (v8 ∘ vA) = id := by funext x; simp [v8, vA]
  rw [this, List.map_id]
theorem uF {n : Nat} (h : n < 256) : vA (UInt8.ofNat n) = (n : Int) := by
  unfold vA
  have : (UInt8.ofNat n).toNat = n % 256 := by simp
  rw [this, Nat.mod_eq_of_lt h]
theorem YA {α : Type} (s : List α) (n : Nat) : sub s 0 (n : Int) = s.take n := by simp [sub]
theorem ZD {α : Type} (s : List α) (n : Nat) : sub s (n : Int) (s.length : Int) = s.drop n := by
  simp only [sub, Int.toNat_natCast]
  exact List.take_of_length_le (by simp)
end Go.Pu

namespace Go.Pu
open Go Go.Sl Go.Mo
theorem QD {b : Bool} (K : Nat) (e : Int) (h : b = true) : zL.m K b e = Gf e := by rw [jB, h]; rfl
theorem u9 {b : Bool} (K : Nat) (e : Int) (h : b = false) : zL.m K b e = .ok () := by rw [jB, h]; rfl
def Mt (l : List Int) : qH := ⟨Zk l, xi l 16⟩
def LG (x : Nat × List Int × List Int) : Option qH × Option qH × Int := (some (Mt x.2.1), some (Mt x.2.2), (x.1 : Int))
theorem Gy {α : Type} (l : List α) (n m : Nat) : sub l (n : Int) (m : Int) = (l.drop n).take (m - n) := by
  simp only [sub, Int.toNat_natCast]
theorem DB : ([0, 0, 0, 0, 0, 0, 0, 0, 0, 0, 0, 0, 0, 0, 0, 0, 0, 0, 0] : List Int) = uN := rfl
theorem Ga (K : Nat) (t : List UInt8) (p : Nat) (out : List Int) (Xg : Int) (hp : p ≤ 8 * t.length) (hl : t.length < 140737488355328) (hK : 1000 < K) :
    zc.m K ⟨⟨⟨p⟩, t⟩, out, Xg⟩ = vh LG (uv t K p) := by
  unfold zc.m uv
  have h5 := yI K t p 5 out Xg (by omega) hp hl (by omega)
  rw [show ((5 : Nat) : Int) = 5 from rfl] at h5
  rw [h5]
  cases ha : xy t p 5 with
  | error e => rw [xa ha]; rfl
  | ok ap =>
    obtain ⟨a, p1⟩ := ap
    have hp1 := (xd ha).2.2
    have ha2 := uP ha
    simp only [yl, two]
    simp (disch := omega) only [qN.bind_ok, qN.bind_pan, qf, qC, zq, cond_true, cond_false, qq, qY, zr, zp, zn, zG, qs, zB, zb, ze, zg, zZ, zi, zh, zD, zQ, Int.toNat_natCast]
    have h5 := yI K t p1 5 out Xg (by omega) hp1 hl (by omega)
    rw [show ((5 : Nat) : Int) = 5 from rfl] at h5
    rw [h5]
    cases hb : xy t p1 5 with
    | error e => rw [xa hb]; rfl
    | ok bp =>
      obtain ⟨b, p2⟩ := bp
      have hp2 := (xd hb).2.2
      have hb2 := uP hb
      simp only [yl, two]
      simp (disch := omega) only [qN.bind_ok, qN.bind_pan, qf, qC, zq, cond_true, cond_false, qq, qY, zr, zp, zn, zG, qs, zB, zb, ze, zg, zZ, zi, zh, zD, zQ, Int.toNat_natCast]
      have h4 := yI K t p2 4 out Xg (by omega) hp2 hl (by omega)
      rw [show ((4 : Nat) : Int) = 4 from rfl] at h4
      rw [h4]
      cases hc : xy t p2 4 with
      | error e => rw [xa hc]; rfl
      | ok cp =>
        obtain ⟨c, p3⟩ := cp
        have hp3 := (xd hc).2.2
        have hc2 := uP hc
        simp only [yl, two]
        simp (disch := omega) only [qN.bind_ok, qN.bind_pan, qf, qC, zq, cond_true, cond_false, qq, qY, zr, zp, zn, zG, qs, zB, zb, ze, zg, zZ, zi, zh, zD, zQ, Int.toNat_natCast]
        by_cases hr : a ≤ 29 ∧ b ≤ 29
        · rw [u9 _ _ (by rw [Bool.or_eq_false_iff]; exact ⟨decide_eq_false (by omega), decide_eq_false (by omega)⟩), if_pos hr]
          simp (disch := omega) only [qN.bind_ok, qN.bind_pan, qf, qC, zq, cond_true, cond_false, qq, qY, zr, zp, zn, zG, qs, zB, zb, ze, zg, zZ, zi, zh, zD, zQ, Int.toNat_natCast]
          have e1 : (c : Int) + 4 = ((4 + c : Nat) : Int) := by omega
          rw [e1]
          have hlens := Yh K t p out Xg ((a : Int) + 257) ((b : Int) + 1) (4 + c) (by omega) hl hK 19 K 0 p3 uN (by omega) (by omega) hp3 (by simp [uN])
          rw [Nat.sub_zero] at hlens
          refine (show _ = _ from hlens).trans ?_
          cases hs : yX t (4 + c) 0 p3 uN with
          | error e => rw [Z1 hs]; rfl
          | ok ql =>
            obtain ⟨p4, l⟩ := ql
            obtain ⟨hll, hp4⟩ := ZA hs hp3
            dsimp only
            unfold zc.j2
            rw [DB]
            by_cases hz : l ≠ uN ∧ xe l = 0
            · rw [u9 _ _ (beq_eq_false_iff_ne.2 hz.1), if_pos hz]
              simp (disch := omega) only [qN.bind_ok, qN.bind_pan, qf, qC, zq, cond_true, cond_false, qq, qY, zr, zp, zn, zG, qs, zB, zb, ze, zg, zZ, zi, zh, zD, zQ, Int.toNat_natCast]
              rw [vH K l (by omega), if_pos hz.2]
              simp (disch := omega) only [qN.bind_ok, qN.bind_pan, qf, qC, zq, cond_true, cond_false, qq, qY, zr, zp, zn, zG, qs, zB, zb, ze, zg, zZ, zi, zh, zD, zQ, Int.toNat_natCast]
              have e2 : (a : Int) + 257 + ((b : Int) + 1) = ((258 + a + b : Nat) : Int) := by omega
              rw [e2]
              unfold qO.m
              dsimp only
              rw [UA K t l (258 + a + b) p4 out Xg (xv hz.2) hl (by omega) hK K p4 [] hp4 (by simp)]
              cases hrow : vx t l (258 + a + b) K p4 [] with
              | error e => rcases VX hrow with rfl | rfl | rfl <;> rfl
              | ok qo =>
                obtain ⟨p5, all⟩ := qo
                obtain ⟨hal, _, hp5⟩ := J0 hrow (by simp) hp4
                simp only [yl, GL]
                have e3 : (256 : Int) = ((256 : Nat) : Int) := rfl
                have e4 : (a : Int) + 257 = ((257 + a : Nat) : Int) := by omega
                rw [e3, e4]
                simp (disch := omega) only [qN.bind_ok, qN.bind_pan, qf, qC, zq, cond_true, cond_false, qq, qY, zr, zp, zn, zG, qs, zB, zb, ze, zg, zZ, zi, zh, zD, zQ, Int.toNat_natCast, ve, Zb]
                have e5 : sub all 0 ((257 + a : Nat) : Int) = all.take (257 + a) := YA _ _
                have e6 : sub all ((257 + a : Nat) : Int) (all.length : Int) = all.drop (257 + a) := ZD _ _
                by_cases h0 : all.getD 256 0 = 0
                · rw [if_pos h0, if_neg (fun h => h.1 h0)]
                  rfl
                · rw [if_neg h0, e5, e6]
                  simp (disch := omega) only [qN.bind_ok, qN.bind_pan, qf, qC, zq, cond_true, cond_false, qq, qY, zr, zp, zn, zG, qs, zB, zb, ze, zg, zZ, zi, zh, zD, zQ, Int.toNat_natCast]
                  rw [vH K _ (by omega), vH K _ (by omega)]
                  by_cases h1 : xe (all.take (257 + a)) = 0
                  · rw [if_pos h1]
                    by_cases h2 : xe (all.drop (257 + a)) = 0
                    · rw [if_pos h2, if_pos ⟨h0, h1, h2⟩]
                      rfl
                    · rw [if_neg h2, if_neg (fun h => h2 h.2.2)]
                      rfl
                  · rw [if_neg h1, if_neg (show ¬ (all.getD 256 0 ≠ 0 ∧ xe (all.take (257 + a)) = 0 ∧ xe (all.drop (257 + a)) = 0) from fun h => h1 h.2.1)]
                    rfl
            · rw [if_neg hz]
              by_cases hz1 : l = uN
              · rw [QD _ _ (beq_iff_eq.2 hz1)]
                rfl
              · rw [u9 _ _ (beq_eq_false_iff_ne.2 hz1)]
                simp (disch := omega) only [qN.bind_ok, qN.bind_pan, qf, qC, zq, cond_true, cond_false, qq, qY, zr, zp, zn, zG, qs, zB, zb, ze, zg, zZ, zi, zh, zD, zQ, Int.toNat_natCast]
                rw [vH K l (by omega), if_neg (fun h => hz ⟨hz1, h⟩)]
                rfl
        · rw [QD _ _ (by rw [Bool.or_eq_true, decide_eq_true_eq, decide_eq_true_eq]; omega), if_neg hr]
          rfl
def MT : List Int := [16, 17, 18, 0, 8, 7, 9, 6, 10, 5, 11, 4, 12, 3, 13, 2, 14, 1, 15]
theorem Xf {l : List Int} {i j : Nat} {v : Int} (h : i ≠ j) : (l.set i v).getD j 0 = l.getD j 0 := by
  simp only [List.getD_eq_getElem?_getD, List.getElem?_set_ne h]
theorem Xe {l : List Int} {i : Nat} {v : Int} (h : i < l.length) : (l.set i v).getD i 0 = v := by
  simp [List.getD_eq_getElem?_getD, h]
theorem KF (n j : Nat) : (List.replicate n (0 : Int)).getD j 0 = 0 := by
  rw [List.getD_eq_getElem?_getD, List.getElem?_replicate]
  split <;> rfl
end Go.Pu

namespace Go.Pu
open Go Go.Sl Go.Mo
def Yv (t : List UInt8) (L K p : Nat) (out : List Int) : Except Int (Nat × List Int) :=
  match uv t K p with
  | .error e => .error e
  | .ok (q, a, b) => jz t L a b K q out
theorem Df {t : List UInt8} {K p : Nat} {e : Int} (h : uv t K p = .error e) : e = -1 ∨ e = 2 ∨ e = 3 := by
  unfold uv at h
  split at h
  · rename_i hv; cases h; rw [xa hv]; decide
  · split at h
    · rename_i hv; cases h; rw [xa hv]; decide
    · split at h
      · rename_i hv; cases h; rw [xa hv]; decide
      · split at h
        · split at h
          · rename_i hv; cases h; rw [Z1 hv]; decide
          · split at h
            · split at h
              · rename_i hv; cases h; exact VX hv
              · split at h
                · cases h
                · cases h; decide
            · cases h; decide
        · cases h; decide
theorem Km {t : List UInt8} {K p q : Nat} {x y : List Int} (h : uv t K p = .ok (q, x, y)) : q ≤ 8 * t.length ∧ xe x = 0 ∧ xe y = 0 := by
  unfold uv at h
  split at h
  · cases h
  · split at h
    · cases h
    · split at h
      · cases h
      · rename_i c p3 hc
        have hp3 := (xd hc).2.2
        split at h
        · split at h
          · cases h
          · rename_i p4 l hs
            have hp4 := (ZA hs hp3).2
            split at h
            · split at h
              · cases h
              · rename_i p5 all hrow
                have hp5 := (J0 hrow (by simp) hp4).2.2
                split at h
                · rename_i hh
                  obtain ⟨h1, h2⟩ := Prod.mk.inj (Except.ok.inj h)
                  obtain ⟨h2, h3⟩ := Prod.mk.inj h2
                  subst h1; subst h2; subst h3
                  exact ⟨hp5, hh.2.1, hh.2.2⟩
                · cases h
            · cases h
        · cases h
end Go.Pu

namespace Go.Pu
open Go Go.Sl Go.Mo
def vZ (t : List UInt8) (L K : Nat) (kind p : Nat) (out : List Int) : Except Int (Nat × List Int) :=
  if kind = 0 then jd t L p out
  else if kind = 1 then jz t L fixL fixD K p out
  else if kind = 2 then Yv t L K p out
  else .error 3
def yB (t : List UInt8) (L K p : Nat) (out : List Int) : Except Int (Bool × Nat × List Int) :=
  match xy t p 1 with
  | .error e => .error e
  | .ok (b, p1) =>
    match xy t p1 2 with
    | .error e => .error e
    | .ok (kind, p2) =>
      match vZ t L K kind p2 out with
      | .error e => .error e
      | .ok (q, o) => .ok (b == 1, q, o)
def yC (t : List UInt8) (L K : Nat) : Nat → Nat → List Int → Except Int (Nat × List Int)
  | 0, _, _ => .error (-1)
  | k + 1, p, out =>
    match yB t L K p out with
    | .error e => .error e
    | .ok (last, q, o) => if last then .ok (q, o) else yC t L K k q o
theorem VY {t : List UInt8} {L p : Nat} {out : List Int} {e : Int} (h : jd t L p out = .error e) : e = 2 ∨ e = 3 ∨ e = 11 := by
  unfold jd at h
  split at h
  · rename_i hv; cases h; exact .inl (Qa hv)
  · split at h
    · split at h
      · rename_i hv; cases h; exact .inl (Qa hv)
      · split at h
        · cases h
        · cases h; decide
    · cases h; decide
theorem UL {t : List UInt8} {L p q : Nat} {out o : List Int} (h : jd t L p out = .ok (q, o)) : p ≤ q ∧ q ≤ 8 * t.length ∧ o.length ≤ L := by
  unfold jd at h
  split at h
  · cases h
  · rename_i hd q1 hv
    split at h
    · split at h
      · cases h
      · rename_i s q2 hw
        split at h
        · obtain ⟨h1, h2⟩ := Prod.mk.inj (Except.ok.inj h)
          subst h1; subst h2
          have a := QM hv
          have b := QM hw
          simp only [List.length_append, List.length_map]
          omega
        · cases h
    · cases h
theorem V0 {t : List UInt8} {L : Nat} {ll dl : List Int} : ∀ {k p out q o}, jz t L ll dl k p out = .ok (q, o) → out.length ≤ L → p < q ∧ q ≤ 8 * t.length ∧ o.length ≤ L := by
  intro k
  induction k with
  | zero => intro p out q o h; cases h
  | succ k ih =>
    intro p out q o h ho
    rw [jz] at h
    split at h
    · cases h
    · rename_i x q1 hx
      have a := jG hx
      split at h
      · obtain ⟨h1, h2⟩ := Prod.mk.inj (Except.ok.inj h)
        subst h1; subst h2; omega
      · split at h
        · split at h
          · have := ih h (by simp; omega); omega
          · cases h
        · split at h
          · cases h
          · rename_i q2 o2 hm
            have b := Jm hm
            have := ih h b.2.2; omega
theorem Jn {t : List UInt8} {L : Nat} {ll dl : List Int} : ∀ {k p out e}, jz t L ll dl k p out = .error e → 8 * t.length < p + k → p ≤ 8 * t.length → e = 2 ∨ e = 3 ∨ e = 11 := by
  intro k
  induction k with
  | zero => intro p out e h; omega
  | succ k ih =>
    intro p out e h hk hp
    rw [jz] at h
    split at h
    · rename_i hx; cases h; rcases ji hx with rfl | rfl <;> decide
    · rename_i x q1 hx
      have a := jG hx
      split at h
      · cases h
      · split at h
        · split at h
          · exact ih h (by omega) (by omega)
          · cases h; decide
        · split at h
          · rename_i hm; cases h; exact UH hm
          · rename_i q2 o2 hm
            have b := Jm hm
            exact ih h (by omega) (by omega)
theorem Gq {t : List UInt8} {c : List Int} {n : Nat} : ∀ {k p out e}, vx t c n k p out = .error e → 8 * t.length < p + k → p ≤ 8 * t.length → e = 2 ∨ e = 3 := by
  intro k
  induction k with
  | zero => intro p out e h; omega
  | succ k ih =>
    intro p out e h hk hp
    rw [vx] at h
    split at h
    · split at h
      · rename_i hx; cases h; exact ji hx
      · rename_i x q1 hx
        have a := jG hx
        split at h
        · exact ih h (by omega) (by omega)
        · split at h
          · split at h
            · cases h; decide
            · split at h
              · rename_i hv; cases h; exact .inl (xa hv)
              · rename_i hv
                have b := xd hv
                split at h
                · exact ih h (by omega) (by omega)
                · cases h; decide
          · split at h
            · split at h
              · rename_i hv; cases h; exact .inl (xa hv)
              · rename_i hv
                have b := xd hv
                split at h
                · exact ih h (by omega) (by omega)
                · cases h; decide
            · split at h
              · rename_i hv; cases h; exact .inl (xa hv)
              · rename_i hv
                have b := xd hv
                split at h
                · exact ih h (by omega) (by omega)
                · cases h; decide
    · cases h
theorem Dl {t : List UInt8} : ∀ {m i p l q o}, yX t m i p l = .ok (q, o) → p ≤ q := by
  intro m
  induction m with
  | zero => intro i p l q o h; rw [yX] at h; cases h; omega
  | succ m ih =>
    intro i p l q o h
    rw [yX] at h
    split at h
    · cases h
    · rename_i v q1 hv
      have := ih h
      have := xd hv
      omega
theorem Gn {t : List UInt8} {K p : Nat} {e : Int} (h : uv t K p = .error e) (hK : 8 * t.length < K) (hp : p ≤ 8 * t.length) : e = 2 ∨ e = 3 := by
  unfold uv at h
  split at h
  · rename_i hv; cases h; exact .inl (xa hv)
  · split at h
    · rename_i hv; cases h; exact .inl (xa hv)
    · split at h
      · rename_i hv; cases h; exact .inl (xa hv)
      · rename_i hc
        have hp3 := (xd hc).2.2
        split at h
        · split at h
          · rename_i hv; cases h; exact .inl (Z1 hv)
          · rename_i hs
            have hp4 := (ZA hs hp3).2
            split at h
            · split at h
              · rename_i hv; cases h; exact Gq hv (by omega) (by omega)
              · split at h
                · cases h
                · cases h; decide
            · cases h; decide
        · cases h; decide
theorem Gm {t : List UInt8} {K p q : Nat} {x y : List Int} (h : uv t K p = .ok (q, x, y)) : p ≤ q := by
  unfold uv at h
  split at h
  · cases h
  · rename_i ha
    split at h
    · cases h
    · rename_i hb
      split at h
      · cases h
      · rename_i c p3 hc
        have hp3 := (xd hc).2.2
        split at h
        · split at h
          · cases h
          · rename_i p4 l hs
            have hp4 := (ZA hs hp3).2
            split at h
            · split at h
              · cases h
              · rename_i p5 all hrow
                have hp5 := (J0 hrow (by simp) hp4).2.1
                split at h
                · rename_i hh
                  obtain ⟨h1, h2⟩ := Prod.mk.inj (Except.ok.inj h)
                  subst h1
                  have a := xd ha
                  have b := xd hb
                  have c := xd hc
                  have d := Dl hs
                  omega
                · cases h
            · cases h
        · cases h
theorem KX {t : List UInt8} {L K kind p : Nat} {out : List Int} {e : Int} (h : vZ t L K kind p out = .error e) (hK : 8 * t.length < K) (hp : p ≤ 8 * t.length) : e = 2 ∨ e = 3 ∨ e = 11 := by
  unfold vZ at h
  split at h
  · exact VY h
  · split at h
    · exact Jn h (by omega) hp
    · split at h
      · unfold Yv at h
        split at h
        · rename_i hd; cases h; rcases Gn hd hK hp with rfl | rfl <;> decide
        · rename_i q a b hd
          have := Km hd
          exact Jn h (by omega) this.1
      · cases h; decide
theorem Dj {t : List UInt8} {L K kind p q : Nat} {out o : List Int} (h : vZ t L K kind p out = .ok (q, o)) (ho : out.length ≤ L) : p ≤ q ∧ q ≤ 8 * t.length ∧ o.length ≤ L := by
  unfold vZ at h
  split at h
  · exact UL h
  · split at h
    · have := V0 h ho; omega
    · split at h
      · unfold Yv at h
        split at h
        · cases h
        · rename_i q1 a b hd
          have := Gm hd
          have := V0 h ho
          omega
      · cases h
theorem UE {t : List UInt8} {L K p : Nat} {out : List Int} {e : Int} (h : yB t L K p out = .error e) (hK : 8 * t.length < K) : e = 2 ∨ e = 3 ∨ e = 11 := by
  unfold yB at h
  split at h
  · rename_i hv; cases h; exact .inl (xa hv)
  · split at h
    · rename_i hv; cases h; exact .inl (xa hv)
    · rename_i hv
      split at h
      · rename_i hk; cases h; exact KX hk hK (xd hv).2.2
      · cases h
theorem QL {t : List UInt8} {L K p q : Nat} {out o : List Int} {b : Bool} (h : yB t L K p out = .ok (b, q, o)) (ho : out.length ≤ L) : p < q ∧ q ≤ 8 * t.length ∧ o.length ≤ L := by
  unfold yB at h
  split at h
  · cases h
  · rename_i hu
    split at h
    · cases h
    · rename_i hv
      split at h
      · cases h
      · rename_i q1 o1 hk
        obtain ⟨_, h2⟩ := Prod.mk.inj (Except.ok.inj h)
        obtain ⟨h2, h3⟩ := Prod.mk.inj h2
        subst h2; subst h3
        have := Dj hk ho
        have := xd hu
        have := xd hv
        omega
theorem Z0 {t : List UInt8} {L K : Nat} : ∀ {k p out e}, yC t L K k p out = .error e → 8 * t.length < K → 8 * t.length < p + k → p ≤ 8 * t.length → out.length ≤ L → e = 2 ∨ e = 3 ∨ e = 11 := by
  intro k
  induction k with
  | zero => intro p out e h; omega
  | succ k ih =>
    intro p out e h hK hk hp ho
    rw [yC] at h
    split at h
    · rename_i hb; cases h; exact UE hb hK
    · rename_i hb
      have := QL hb ho
      split at h
      · cases h
      · exact ih h hK (by omega) (by omega) (by omega)
theorem Dh {t : List UInt8} {L K : Nat} : ∀ {k p out q o}, yC t L K k p out = .ok (q, o) → out.length ≤ L → p < q ∧ q ≤ 8 * t.length ∧ o.length ≤ L := by
  intro k
  induction k with
  | zero => intro p out q o h; cases h
  | succ k ih =>
    intro p out q o h ho
    rw [yC] at h
    split at h
    · cases h
    · rename_i hb
      have := QL hb ho
      split at h
      · obtain ⟨h1, h2⟩ := Prod.mk.inj (Except.ok.inj h)
        subst h1; subst h2; omega
      · have := ih h (by omega); omega
def GU (x : Bool × Nat × List Int) : Bool × Int × List Int := (x.1, (x.2.1 : Int), x.2.2)
theorem Jh (K : Nat) (t : List UInt8) (L p : Nat) (out ll dl : List Int) (hll : XD ll) (hdl : XD dl) (hp : p ≤ 8 * t.length) (hl : t.length < 140737488355328) (hL : L < 1073741825) (ho : out.length ≤ L) (hK : 1000 < K) :
    qV.m K ⟨⟨⟨p⟩, t⟩, out, L⟩ ⟨Zk ll, xi ll 16⟩ ⟨Zk dl, xi dl 16⟩ = vh B0 (jz t L ll dl K p out) := by
  unfold qV.m
  dsimp only
  exact vX K t L ll dl p out hll hdl hl hL hK K p out hp ho
theorem KR (K : Nat) (t : List UInt8) (L p : Nat) (out : List Int) (hp : p ≤ 8 * t.length) (hl : t.length < 140737488355328) (hL : L < 1073741825) (ho : out.length ≤ L) (hK : 1000 < K) :
    ym.m K ⟨⟨⟨p⟩, t⟩, out, L⟩ = vh GU (yB t L K p out) := by
  unfold ym.m yB
  have h1 := yI K t p 1 out L (by omega) hp hl (by omega)
  rw [show ((1 : Nat) : Int) = 1 from rfl] at h1
  rw [h1]
  cases ha : xy t p 1 with
  | error e => rw [xa ha]; rfl
  | ok bp =>
    obtain ⟨b, p1⟩ := bp
    have hp1 := (xd ha).2.2
    simp only [yl, two]
    simp only [qN.bind_ok, qC]
    have h2 := yI K t p1 2 out L (by omega) hp1 hl (by omega)
    rw [show ((2 : Nat) : Int) = 2 from rfl] at h2
    rw [h2]
    cases hb : xy t p1 2 with
    | error e => rw [xa hb]; rfl
    | ok kp =>
      obtain ⟨kind, p2⟩ := kp
      have hp2 := (xd hb).2.2
      have hlast : ((b : Int) == 1) = (b == 1) := by
        rw [Bool.eq_iff_iff, beq_iff_eq, beq_iff_eq]; omega
      simp only [yl, two, hlast]
      simp only [qN.bind_ok]
      have fin : ∀ s : Except Int (Nat × List Int), ((vh B0 s).bind fun (x : Int × List Int) => (.ok ((b == 1), x.1, x.2) : qN (Bool × Int × List Int))) = vh GU (match s with
        | .error e => .error e
        | .ok (q, o) => .ok (b == 1, q, o)) := by
        intro s
        cases s with
        | ok x => rfl
        | error e =>
          by_cases h : e = -1
          · subst h; rfl
          · rw [ja h]; dsimp only; rw [ja h]; rfl
      unfold vZ
      by_cases k0 : kind = 0
      · subst k0
        simp only [show (((0 : Nat) : Int) == 0) = true from rfl, cond_true, if_true]
        rw [UB K t L p2 out hp2 hl (by omega)]
        exact fin _
      · rw [show ((kind : Int) == 0) = false from beq_eq_false_iff_ne.2 (by omega), if_neg k0]
        by_cases k1 : kind = 1
        · subst k1
          simp only [show (((1 : Nat) : Int) == 1) = true from rfl, cond_true, cond_false, if_true]
          rw [KT K hK]
          simp only [qN.bind_ok, zq]
          rw [Jh K t L p2 out fixL fixD (xv XA) (xv Xz) hp2 hl hL ho hK]
          exact fin _
        · rw [show ((kind : Int) == 1) = false from beq_eq_false_iff_ne.2 (by omega), if_neg k1]
          by_cases k2 : kind = 2
          · subst k2
            simp only [show (((2 : Nat) : Int) == 2) = true from rfl, cond_true, cond_false, if_true]
            rw [Ga K t p2 out L hp2 hl hK]
            unfold Yv
            cases hd : uv t K p2 with
            | error e => rcases Df hd with rfl | rfl | rfl <;> rfl
            | ok qab =>
              obtain ⟨q, x, y⟩ := qab
              obtain ⟨hq, hx, hy⟩ := Km hd
              simp only [yl, LG, qN.bind_ok, zq]
              unfold Mt
              rw [Jh K t L q out x y (xv hx) (xv hy) hq hl hL ho hK]
              exact fin _
          · rw [show ((kind : Int) == 2) = false from beq_eq_false_iff_ne.2 (by omega), if_neg k2]
            simp only [cond_false]
            rw [QD K 3 rfl]
            rfl
theorem VP (K : Nat) (t : List UInt8) (L : Nat) (hl : t.length < 140737488355328) (hL : L < 1073741825) (hK : 1000 < K) : ∀ k p out, p ≤ 8 * t.length → out.length ≤ L →
    zC.l3 K t L k (p : Int) out = vh (fun (x : Nat × List Int) => (x.2.map v8, (((x.1 + 7) / 8 : Nat) : Int), (0 : Int))) (yC t L K k p out) := by
  intro k
  induction k with
  | zero => intro p out _ _; rfl
  | succ k ih =>
    intro p out hp ho
    rw [zC.l3, yC]
    rw [KR K t L p out hp hl hL ho hK]
    cases hb : yB t L K p out with
    | error e =>
      by_cases h : e = -1
      · subst h; rfl
      · rw [ja h]; dsimp only; rw [ja h]; rfl
    | ok x =>
      obtain ⟨last, q, o⟩ := x
      obtain ⟨_, hq, hoq⟩ := QL hb ho
      simp only [yl, GU, qN.bind_ok]
      cases last with
      | true =>
        simp only [Bool.not_true, cond_false, if_true]
        unfold zC.j4
        have e := Zs (a := q + 7) (b := 8) (by omega) (by omega)
        rw [show ((8 : Nat) : Int) = 8 from rfl] at e
        have e2 : qg ((q : Int) + 7) = ((q + 7 : Nat) : Int) := by rw [qs (by omega) (by omega)]; push_cast; rfl
        rw [e2, e]
        rfl
      | false =>
        simp only [Bool.not_false, cond_true]
        exact ih q o hq hoq
def Ze (K : Nat) (t : List UInt8) (limit : Int) : List UInt8 × Int × Int :=
  if limit < 0 ∨ 1073741824 < limit then ([], 0, 1)
  else match yC t limit.toNat K K 0 [] with
    | .ok (q, out) => (out.map v8, (((q + 7) / 8 : Nat) : Int), 0)
    | .error e => ([], 0, e)
theorem VQ (K : Nat) (t : List UInt8) (limit : Int) (hl : t.length < 140737488355328) (hK : 1000 + 8 * t.length < K) : zC.m K t limit = .ok (Ze K t limit) := by
  unfold zC.m Ze
  by_cases h : limit < 0 ∨ 1073741824 < limit
  · rw [if_pos h]
    have : (decide (limit < (0 : Int)) || decide (limit > (1073741824 : Int))) = true := by rw [Bool.or_eq_true, decide_eq_true_eq, decide_eq_true_eq]; omega
    rw [this]; rfl
  · rw [if_neg h]
    have : (decide (limit < (0 : Int)) || decide (limit > (1073741824 : Int))) = false := by rw [Bool.or_eq_false_iff, decide_eq_false_iff_not, decide_eq_false_iff_not]; omega
    rw [this, cond_false]
    obtain ⟨L, rfl⟩ := Int.eq_ofNat_of_zero_le (show 0 ≤ limit by omega)
    unfold zC.j2 Zf.m
    have := VP K t L hl (by omega) (by omega) K 0 [] (by omega) (by simp)
    rw [show ((0 : Nat) : Int) = 0 from rfl] at this
    simp only [qN.bind_ok]
    rw [this, Int.toNat_natCast]
    cases hs : yC t L K K 0 [] with
    | ok x => rfl
    | error e =>
      have he := Z0 hs (by omega) (by omega) (by omega) (by simp)
      rw [ja (by omega)]
      rcases he with rfl | rfl | rfl <;> rfl
def Mg (m : qN (Bool × Int × Int × List Int)) (s : Except Int (Bool × Nat × List Int)) : Prop :=
  match s with
  | .ok (b, q, out) => m = .ok (b, 0, (q : Int), out)
  | .error e => if e = -1 then m = .fail else ∃ b p out, m = .ok (b, e, p, out) ∧ e ≠ 0
end Go.Pu

namespace Go.Pu
open Go Go.Sl Go.Mo
def jD : List UInt8 → Nat → Nat → Nat × Nat
  | [], x, y => (x, y)
  | b :: s, x, y => jD s ((x + b.toNat) % 65521) ((y + (x + b.toNat) % 65521) % 65521)
def Ku (s : List UInt8) : Nat := (jD s 1 0).2 * 65536 + (jD s 1 0).1
theorem XO : ∀ s x y, x < 65521 → y < 65521 → (jD s x y).1 < 65521 ∧ (jD s x y).2 < 65521
  | [], _, _, hx, hy => ⟨hx, hy⟩
  | b :: s, x, y, _, _ => XO s _ _ (Nat.mod_lt _ (by decide)) (Nat.mod_lt _ (by decide))
theorem Bd (s : List UInt8) : Ku s < 4294967296 := by
  have := XO s 1 0 (by decide) (by decide)
  unfold Ku; omega
theorem YN : ∀ s t x y, jD (s ++ t) x y = jD t (jD s x y).1 (jD s x y).2
  | [], _, _, _ => rfl
  | b :: s, t, x, y => by rw [List.cons_append, jD, jD, YN s t]
def QZ : List UInt8 → Nat → Nat → Nat × Nat
  | [], x, y => (x, y)
  | b :: s, x, y => QZ s (x + b.toNat) (y + (x + b.toNat))
theorem Ji : ∀ s x y, (QZ s x y).1 % 65521 = (jD s (x % 65521) (y % 65521)).1 ∧ (QZ s x y).2 % 65521 = (jD s (x % 65521) (y % 65521)).2
  | [], _, _ => ⟨rfl, rfl⟩
  | b :: s, x, y => by
    rw [QZ, jD]
    have := Ji s (x + b.toNat) (y + (x + b.toNat))
    have e1 : (x % 65521 + b.toNat) % 65521 = (x + b.toNat) % 65521 := by omega
    have e2 : (y % 65521 + (x + b.toNat) % 65521) % 65521 = (y + (x + b.toNat)) % 65521 := by omega
    rw [e1, e2]
    exact this
theorem JS (K : Nat) (g : List UInt8 → Int → Int → qN Int) (s : List UInt8) (n : Nat) (hn : n ≤ 5000) (hns : n ≤ s.length) : ∀ (j k i x y : Nat), i + j = n → j < k → x ≤ 65520 + 255 * i → 2 * y ≤ 131040 + 131040 * i + 255 * (i * (i + 1)) →
    za.l2 K g s (n : Int) k (x : Int) (y : Int) (i : Int) = za.j3 K g s (n : Int) ((QZ ((s.take n).drop i) x y).1 : Int) ((QZ ((s.take n).drop i) x y).2 : Int) := by
  intro j
  induction j with
  | zero =>
    intro k i x y hi hk hx hy
    obtain ⟨k, rfl⟩ : ∃ m, k = m + 1 := ⟨k - 1, by omega⟩
    rw [za.l2, List.drop_eq_nil_of_le (by simp; omega)]
    simp (disch := omega) only [qN.bind_ok, qN.bind_pan, qf, qC, zq, cond_true, cond_false, qq, qY, zr, zp, zn, zG, qs, zB, zb, ze, zg, zZ, zi, zh, zD, zQ, Int.toNat_natCast, if_neg, QZ]
  | succ j ih =>
    intro k i x y hi hk hx hy
    obtain ⟨k, rfl⟩ : ∃ m, k = m + 1 := ⟨k - 1, by omega⟩
    have hil : i < s.length := by omega
    have hb := s[i].toNat_lt
    have hit : i < (s.take n).length := by simp; omega
    have hq : i * (i + 1) ≤ 5000 * 5001 := Nat.mul_le_mul (by omega) (by omega)
    have hq2 : (i + 1) * (i + 1 + 1) = i * (i + 1) + 2 * (i + 1) := by rw [Nat.add_mul, Nat.mul_add, Nat.mul_add]; omega
    rw [za.l2, List.drop_eq_getElem_cons hit, QZ, List.getElem_take]
    have e1 : (rd s (i : Int)) = s[i] := yV hil
    have e2 : (x : Int) + ((s[i].toNat : Nat) : Int) = ((x + s[i].toNat : Nat) : Int) := by push_cast; rfl
    have e4 : (y : Int) + ((x + s[i].toNat : Nat) : Int) = ((y + (x + s[i].toNat) : Nat) : Int) := by push_cast; rfl
    have e6 : (i : Int) + 1 = ((i + 1 : Nat) : Int) := by push_cast; rfl
    rw [e1]
    simp (disch := omega) only [qN.bind_ok, qN.bind_pan, qf, qC, zq, cond_true, cond_false, qq, qY, zr, zp, zn, zG, qs, zB, zb, ze, zg, zZ, zi, zh, zD, zQ, Int.toNat_natCast, if_pos, e2, e4, e6]
    exact ih k (i + 1) _ _ (by omega) (by omega) (by omega) (by rw [hq2]; omega)
theorem Y0 {x y : Nat} (hx : x < 65536) (hy : y < 65536) : QS .u32 (z8 .u32 (y : Int) 16) (x : Int) = ((y * 65536 + x : Nat) : Int) := by
  have e1 : z8 .u32 (y : Int) 16 = ((y * 2 ^ 16 : Nat) : Int) := Vs (n := 16) (by omega) (by omega)
  rw [e1]
  show IntKind.u32.wrap ((BitVec.ofInt 32 ((y * 2 ^ 16 : Nat) : Int) ||| BitVec.ofInt 32 (x : Int)).toNat : Int) = _
  simp only [yU, BitVec.toNat_or, BitVec.toNat_ofNat]
  rw [Nat.mod_eq_of_lt (by omega), Nat.mod_eq_of_lt (by omega), Nat.mul_comm y, ← Nat.two_pow_add_eq_or_of_lt (i := 16) (b := x) hx y]
  rw [show 2 ^ 16 * y + x = y * 65536 + x by omega]
  exact zb (by omega) (by omega)
theorem JR (K : Nat) (hK : 5000 < K) : ∀ (j k x y : Nat) (s : List UInt8), s.length ≤ j → j < k → x < 65521 → y < 65521 →
    za.l1 K k s (x : Int) (y : Int) = .ok (((jD s x y).2 * 65536 + (jD s x y).1 : Nat) : Int) := by
  intro j
  induction j with
  | zero =>
    intro k x y s hs hk hx hy
    obtain ⟨k, rfl⟩ : ∃ m, k = m + 1 := ⟨k - 1, by omega⟩
    rw [za.l1]
    have : s = [] := List.eq_nil_of_length_eq_zero (by omega)
    subst this
    rw [show decide ((([] : List UInt8).length : Int) > 0) = false from rfl, cond_false]
    unfold za.j4
    simp only [qC, jD]
    rw [Y0 (by omega) (by omega)]
  | succ j ih =>
    intro k x y s hs hk hx hy
    obtain ⟨k, rfl⟩ : ∃ m, k = m + 1 := ⟨k - 1, by omega⟩
    rw [za.l1]
    by_cases h0 : s.length = 0
    · have : s = [] := List.eq_nil_of_length_eq_zero h0
      subst this
      rw [show decide ((([] : List UInt8).length : Int) > 0) = false from rfl, cond_false]
      unfold za.j4
      simp only [qC, jD]
      rw [Y0 (by omega) (by omega)]
    · rw [decide_eq_true (show (s.length : Int) > 0 by omega), cond_true]
      simp only [qC]
      obtain ⟨n, hn, hn1⟩ : ∃ n : Nat, (if (s.length : Int) < (5000 : Int) then (s.length : Int) else (5000 : Int)) = (n : Int) ∧ (n ≤ 5000 ∧ n ≤ s.length ∧ 0 < n) := by
        by_cases h : s.length < 5000
        · exact ⟨s.length, by rw [if_pos (by omega)], by omega⟩
        · exact ⟨5000, by rw [if_neg (by omega)]; rfl, by omega⟩
      have hl2 := JS K (za.l1 K k) s n hn1.1 hn1.2.1 n K 0 x y (by omega) (by omega) (by omega) (by omega)
      rw [hn, show (0 : Int) = ((0 : Nat) : Int) from rfl, hl2, List.drop_zero]
      unfold za.j3
      obtain ⟨m1, m2⟩ := Ji (s.take n) x y
      rw [Nat.mod_eq_of_lt hx, Nat.mod_eq_of_lt hy] at m1 m2
      have e1 : vV ((QZ (s.take n) x y).1 : Int) 65521 = ((jD (s.take n) x y).1 : Int) := by rw [← m1]; exact Yb (b := 65521)
      have e2 : vV ((QZ (s.take n) x y).2 : Int) 65521 = ((jD (s.take n) x y).2 : Int) := by rw [← m2]; exact Yb (b := 65521)
      rw [zi (by omega) (by omega) (by omega), e1, e2, ZD]
      simp only [qf, qC]
      obtain ⟨b1, b2⟩ := XO (s.take n) x y hx hy
      rw [ih k _ _ (s.drop n) (by simp; omega) (by omega) b1 b2, ← YN, List.take_append_drop]
theorem Jd (K : Nat) (s : List UInt8) (hK : 5000 + s.length < K) : j0.m K s = .ok (Ku s : Int) := by
  unfold j0.m za.m
  have := JR K (by omega) s.length K 1 0 s (by omega) (by omega) (by decide) (by decide)
  have e : vV (xH .u32 1 65535) 65521 = 1 := by decide
  have e2 : vV (xb .u32 1 16) 65521 = 0 := by decide
  simp only [qC, e, e2]
  rw [show ((0 : Nat) : Int) = 0 from rfl, show ((1 : Nat) : Int) = 1 from rfl] at this
  rw [this]
  rfl
end Go.Pu

namespace Go.Pu
open Go Go.Sl Go.Mo
def LM (w : Nat) : Prop := w = 1 ∨ w = 2 ∨ w = 4 ∨ w = 8
theorem Xi (K : Nat) (w : Nat) (hw : LM w) : vr.m K (w : Int) = .ok true := by
  rcases hw with rfl | rfl | rfl | rfl <;> rfl
def XP (s : List UInt8) (at_ : Nat) : Nat → Nat
  | 0 => 0
  | w + 1 => XP s at_ w * 256 + xI s (at_ + w)
theorem Bf (s : List UInt8) (at_ : Nat) : ∀ w, XP s at_ w < 256 ^ w
  | 0 => by simp [XP]
  | w + 1 => by
    have := Bf s at_ w
    have h2 := yN s (at_ + w)
    rw [XP, Nat.pow_succ]; omega
def vu (s : List UInt8) (w : Nat) : Nat → Nat
  | 0 => 0
  | i + 1 => vu s w i + xI s (w - 1 - i) * 2 ^ (8 * i)
theorem Y7 (s : List UInt8) (w : Nat) : ∀ i, vu s w i < 2 ^ (8 * i)
  | 0 => by simp [vu]
  | i + 1 => by
    have := Y7 s w i
    have h2 := yN s (w - 1 - i)
    have h3 : xI s (w - 1 - i) * 2 ^ (8 * i) ≤ 255 * 2 ^ (8 * i) := Nat.mul_le_mul_right _ (by omega)
    rw [vu, show 8 * (i + 1) = 8 * i + 8 by omega, Nat.pow_add]; omega
theorem Y6 (s : List UInt8) (w : Nat) : ∀ i, i ≤ w → XP s 0 w = XP s 0 (w - i) * 2 ^ (8 * i) + vu s w i
  | 0, _ => by simp [vu]
  | i + 1, h => by
    rw [Y6 s w i (by omega), vu]
    have e : w - i = (w - (i + 1)) + 1 := by omega
    rw [e, XP, Nat.zero_add, show w - 1 - i = w - (i + 1) by omega, show 8 * (i + 1) = 8 + 8 * i by omega, Nat.pow_add, Nat.add_mul, Nat.mul_assoc, show (2 : Nat) ^ 8 = 256 from rfl]
    omega
theorem Uh (s : List UInt8) (at_ w i : Nat) (h : i < w) : xI ((s.drop at_).take w) i = xI s (at_ + i) := by
  unfold xI
  rw [List.getD_eq_getElem?_getD, List.getD_eq_getElem?_getD, List.getElem?_take, if_pos h, List.getElem?_drop]
theorem Va (s : List UInt8) (at_ w : Nat) : ∀ i, i ≤ w → XP ((s.drop at_).take w) 0 i = XP s at_ i
  | 0, _ => rfl
  | i + 1, h => by rw [XP, XP, Va s at_ w i (by omega), Nat.zero_add, Uh s at_ w i (by omega)]
theorem Dw (K : Nat) (v : List UInt8) (w : Nat) (hw : w ≤ 8) (hv : v.length = w) : ∀ (j k i : Nat), i + j = w → j < k →
    zS.l1 K (w : Int) v k (vu v w i : Int) (i : Int) = .ok ((XP v 0 w : Int), 0) := by
  intro j
  induction j with
  | zero =>
    intro k i hi hk
    obtain ⟨k, rfl⟩ : ∃ m, k = m + 1 := ⟨k - 1, by omega⟩
    rw [zS.l1]
    have := Y6 v w w (Nat.le_refl _)
    rw [Nat.sub_self] at this
    have e : vu v w i = XP v 0 w := by
      rw [show i = w by omega, this]; simp [XP]
    simp (disch := omega) only [qN.bind_ok, qN.bind_pan, qf, qC, zq, cond_true, cond_false, qq, qY, zr, zp, zn, zG, qs, zB, zb, ze, zg, zZ, zi, zh, zD, zQ, Int.toNat_natCast, if_neg, e]
  | succ j ih =>
    intro k i hi hk
    obtain ⟨k, rfl⟩ : ∃ m, k = m + 1 := ⟨k - 1, by omega⟩
    rw [zS.l1]
    unfold ye.m
    have e1 : (w : Int) - 1 - (i : Int) = ((w - 1 - i : Nat) : Int) := by omega
    have e2 : (8 : Int) * (i : Int) = ((8 * i : Nat) : Int) := by omega
    have e6 : (i : Int) + 1 = ((i + 1 : Nat) : Int) := by push_cast; rfl
    have hb := yN v (w - 1 - i)
    simp (disch := omega) only [qN.bind_ok, qN.bind_pan, qf, qC, zq, cond_true, cond_false, qq, qY, zr, zp, zn, zG, qs, zB, zb, ze, zg, zZ, zi, zh, zD, zQ, Int.toNat_natCast, if_pos, e1, e2, e6, Zz]
    have hpow : 2 ^ (8 * i) ≤ 2 ^ 56 := Nat.pow_le_pow_right (by decide) (by omega)
    have hm : xI v (w - 1 - i) * 2 ^ (8 * i) ≤ 255 * 2 ^ (8 * i) := Nat.mul_le_mul_right _ (by omega)
    have hl := Y7 v w i
    rw [Yc (by omega) (by omega), U7 (by omega) (by omega)]
    have e3 : vu v w i ||| xI v (w - 1 - i) * 2 ^ (8 * i) = vu v w (i + 1) := by
      rw [Nat.or_comm, Nat.mul_comm, ← Nat.two_pow_add_eq_or_of_lt hl, vu, Nat.mul_comm]; omega
    rw [e3]
    exact ih k (i + 1) (by omega) (by omega)
def V8 (s : List UInt8) (at_ w : Nat) : Nat × Int := if at_ + w ≤ s.length then (XP s at_ w, 0) else (0, 2)
theorem Gc (K : Nat) (s : List UInt8) (base : Int) (at_ n : Nat) (hs : s.length < 140737488355328) (ha : at_ < 9223372036854775808) (hn : n < 9223372036854775808) (hb0 : 0 ≤ base) (hb1 : base < 140737488355328) :
    jm.m K ⟨s, base⟩ (at_ : Int) (n : Int) = if at_ + n ≤ s.length then .ok ((s.drop at_).take n, base + at_, 0) else .ok ([], 0, 2) := by
  unfold jm.m
  have h0 : (decide ((at_ : Int) < 0) || decide ((n : Int) < 0)) = false := by rw [Bool.or_eq_false_iff]; exact ⟨decide_eq_false (by omega), decide_eq_false (by omega)⟩
  rw [h0, cond_false]
  dsimp only
  by_cases h : at_ + n ≤ s.length
  · have h1 : (decide ((at_ : Int) > (s.length : Int)) || decide ((n : Int) > qg ((s.length : Int) - (at_ : Int)))) = false := by
      rw [Bool.or_eq_false_iff, qs (by omega) (by omega)]; exact ⟨decide_eq_false (by omega), decide_eq_false (by omega)⟩
    have e : qg ((at_ : Int) + (n : Int)) = ((at_ + n : Nat) : Int) := by rw [qs (by omega) (by omega)]; push_cast; rfl
    rw [h1, cond_false, if_pos h, e, zi (by omega) (by omega) (by omega), Gy, Nat.add_sub_cancel_left, qs (by omega) (by omega)]
    rfl
  · have h1 : (decide ((at_ : Int) > (s.length : Int)) || decide ((n : Int) > qg ((s.length : Int) - (at_ : Int)))) = true := by
      rw [Bool.or_eq_true, decide_eq_true_eq, decide_eq_true_eq]
      by_cases h2 : at_ > s.length
      · left; omega
      · right; rw [qs (by omega) (by omega)]; omega
    rw [h1, cond_true, if_neg h]
theorem GP (K : Nat) (s : List UInt8) (base : Int) (at_ w : Nat) (hw : LM w) (hs : s.length < 140737488355328) (ha : at_ < 9223372036854775808) (hb0 : 0 ≤ base) (hb1 : base < 140737488355328) (hK : 8 < K) :
    zS.m K ⟨s, base⟩ (at_ : Int) (w : Int) = .ok (((V8 s at_ w).1 : Int), (V8 s at_ w).2) := by
  unfold zS.m V8
  have hw8 : w ≤ 8 := by unfold LM at hw; omega
  rw [Xi K w hw, Gc K s base at_ w hs ha (by omega) hb0 hb1]
  simp only [qN.bind_ok, Bool.not_true, cond_false]
  by_cases h : at_ + w ≤ s.length
  · rw [if_pos h, if_pos h]
    have z : ((0 : Int) != 0) = false := rfl
    simp only [qN.bind_ok, z, cond_false, yY.m]
    have hl : ((s.drop at_).take w).length = w := by simp; omega
    have := Dw K ((s.drop at_).take w) w hw8 hl w K 0 (by omega) (by omega)
    rw [Va s at_ w w (Nat.le_refl _)] at this
    exact this
  · rw [if_neg h, if_neg h]
    rfl
end Go.Pu

namespace Go.Pu
open Go Go.Sl Go.Mo
def YE (s : List UInt8) : Prop := xI s 0 % 16 = 8 ∧ xI s 0 / 16 ≤ 7 ∧ (256 * xI s 0 + xI s 1) % 31 = 0 ∧ xI s 1 / 32 % 2 = 0
instance (s : List UInt8) : Decidable (YE s) := inferInstanceAs (Decidable (_ ∧ _))
def Q2 (K : Nat) (s : List UInt8) (limit : Int) : List UInt8 × Int × Int :=
  if limit < 0 ∨ 1073741824 < limit then ([], 0, 1)
  else if s.length < 2 then ([], 0, 2)
  else if YE s then
    (match yC (s.drop 2) limit.toNat K K 0 [] with
    | .error e => ([], 0, e)
    | .ok (q, o) =>
      if 2 + (q + 7) / 8 + 4 ≤ s.length then
        (if XP s (2 + (q + 7) / 8) 4 = Ku (o.map v8) then (o.map v8, ((6 + (q + 7) / 8 : Nat) : Int), 0) else ([], 0, 4))
      else ([], 0, 2))
  else ([], 0, 3)
theorem Vo {a : Nat} (h : a < 18446744073709551616) : xH .u64 (a : Int) 15 = ((a % 16 : Nat) : Int) := by
  have := X8 (a := a) (b := 15) h (by decide)
  rw [show ((15 : Nat) : Int) = 15 from rfl] at this
  rw [this, show (15 : Nat) = 2 ^ 4 - 1 from rfl, Nat.and_two_pow_sub_one_eq_mod]
theorem Vp {a : Nat} (h : a < 18446744073709551616) : xH .u64 (a : Int) 32 = ((a / 32 % 2 * 32 : Nat) : Int) := by
  have := X8 (a := a) (b := 32) h (by decide)
  rw [show ((32 : Nat) : Int) = 32 from rfl] at this
  rw [this]
  congr 1
  apply Nat.eq_of_testBit_eq
  intro j
  rw [Nat.testBit_and, show (32 : Nat) = 2 ^ 5 from rfl, Nat.testBit_two_pow, Nat.testBit_mul_two_pow]
  have e := Nat.testBit_mod_two_pow (a / 2 ^ 5) 1 (j - 5)
  rw [Nat.pow_one, Nat.testBit_div_two_pow] at e
  rw [e]
  by_cases hj : 5 = j
  · subst hj; simp
  · by_cases h5 : 5 ≤ j
    · simp [hj, show ¬ j - 5 < 1 by omega]
    · simp [hj, h5]
theorem KL (a b : Nat) (c : Int) (hc : c = (b : Int)) : vV (a : Int) c = ((a % b : Nat) : Int) := by subst hc; exact Yb
theorem Y3 (a n : Nat) (c : Int) (hc : c = (n : Int)) (hn : n ≤ 64) : xb .u64 (a : Int) c = ((a / 2 ^ n : Nat) : Int) := by subst hc; exact yt (k := .u64) hn
theorem UR {s : List UInt8} (n : Nat) (hn : n = XP s 0 2) : ((((((xH .u64 (xb .u64 (n : Int) (8 : Int)) (15 : Int)) != (8 : Int)) || (decide ((xb .u64 (n : Int) (12 : Int)) > (7 : Int)))) || ((vV (n : Int) (31 : Int)) != (0 : Int))) || ((xH .u64 (n : Int) (32 : Int)) != (0 : Int)))) = !decide (YE s) := by
  have h0 := yN s 0
  have h1 := yN s 1
  have hn2 : n = xI s 0 * 256 + xI s 1 := by rw [hn]; simp [XP]
  clear hn
  rw [Y3 n 8 8 rfl (by decide), Y3 n 12 12 rfl (by decide), show (2 : Nat) ^ 8 = 256 from rfl, show (2 : Nat) ^ 12 = 4096 from rfl, Vo (by omega), KL n 31 31 rfl, Vp (by omega)]
  rw [Bool.eq_iff_iff]
  simp only [Bool.or_eq_true, bne_iff_ne, decide_eq_true_eq, Bool.not_eq_true', decide_eq_false_iff_not]
  unfold YE
  generalize xI s 0 = a at *
  generalize xI s 1 = b at *
  subst hn2
  have e1 : (a * 256 + b) / 256 = a := by omega
  have e2 : (a * 256 + b) / 4096 = a / 16 := by omega
  have e3 : (a * 256 + b) / 32 % 2 = b / 32 % 2 := by omega
  have e4 : 256 * a + b = a * 256 + b := by omega
  rw [e1, e2, e3, e4]
  generalize (a * 256 + b) % 31 = r
  generalize b / 32 % 2 = u
  omega
theorem QK (K : Nat) (s : List UInt8) (limit : Int) (hs : s.length < 140737488355328) (hK : 1000 + 8 * s.length < K) (hK2 : limit + 6000 < K) : jn.m K s limit = .ok (Q2 K s limit) := by
  unfold jn.m Q2
  by_cases h : limit < 0 ∨ 1073741824 < limit
  · rw [if_pos h]
    have : (decide (limit < (0 : Int)) || decide (limit > (1073741824 : Int))) = true := by rw [Bool.or_eq_true, decide_eq_true_eq, decide_eq_true_eq]; omega
    rw [this]; rfl
  · rw [if_neg h]
    have : (decide (limit < (0 : Int)) || decide (limit > (1073741824 : Int))) = false := by rw [Bool.or_eq_false_iff, decide_eq_false_iff_not, decide_eq_false_iff_not]; omega
    rw [this, cond_false]
    have hu := GP K s 0 0 2 (by unfold LM; omega) hs (by omega) (by omega) (by omega) (by omega)
    rw [show ((0 : Nat) : Int) = 0 from rfl, show ((2 : Nat) : Int) = 2 from rfl] at hu
    simp only [YD.m, qN.bind_ok, hu]
    unfold V8
    by_cases h2 : s.length < 2
    · rw [if_pos h2, if_neg (by omega)]
      rfl
    · rw [if_neg h2, if_pos (by omega)]
      have z : ((0 : Int) != 0) = false := rfl
      simp only [z, cond_false]
      rw [UR (s := s) (XP s 0 2) rfl]
      by_cases hh : YE s
      · rw [if_pos hh, decide_eq_true hh]
        simp only [Bool.not_true, cond_false]
        have hsub := ZD s 2
        rw [show ((2 : Nat) : Int) = 2 from rfl] at hsub
        rw [zi (by omega) (by omega) (by omega), hsub, VQ K (s.drop 2) limit (by simp; omega) (by simp; omega)]
        simp only [qf, qN.bind_ok]
        unfold Ze
        rw [if_neg h]
        cases hr : yC (s.drop 2) limit.toNat K K 0 [] with
        | error e =>
          have he := Z0 hr (by simp; omega) (by simp; omega) (by simp) (by simp)
          simp only [bne_iff_ne.2 (show e ≠ 0 by omega), cond_true]
        | ok x =>
          obtain ⟨q, o⟩ := x
          obtain ⟨_, hq, ho⟩ := Dh hr (by simp)
          rw [List.length_drop] at hq
          simp only [z, cond_false, qC]
          have e1 : qg ((((q + 7) / 8 : Nat) : Int) + 2) = ((2 + (q + 7) / 8 : Nat) : Int) := by rw [qs (by omega) (by omega)]; omega
          have hu := GP K s 0 (2 + (q + 7) / 8) 4 (by unfold LM; omega) hs (by omega) (by omega) (by omega) (by omega)
          rw [show ((4 : Nat) : Int) = 4 from rfl] at hu
          rw [e1, hu]
          unfold V8
          by_cases h4 : 2 + (q + 7) / 8 + 4 ≤ s.length
          · rw [if_pos h4, if_pos h4]
            have hb := Bf s (2 + (q + 7) / 8) 4
            simp only [qN.bind_ok, z, cond_false]
            rw [Jd K _ (by rw [List.length_map]; omega)]
            simp only [qN.bind_ok]
            rw [zb (by omega) (by omega)]
            by_cases ha : XP s (2 + (q + 7) / 8) 4 = Ku (o.map v8)
            · rw [if_pos ha, ha]
              have zz : ((Ku (o.map v8) : Int) != (Ku (o.map v8) : Int)) = false := by simp
              rw [zz, cond_false, qs (by omega) (by omega)]
              congr 3
              omega
            · rw [if_neg ha, bne_iff_ne.2 (by omega), cond_true]
          · rw [if_neg h4, if_neg h4]
            rfl
      · rw [if_neg hh, decide_eq_false hh]
        rfl
theorem MG (s : List UInt8) (at_ : Nat) (h : at_ + 4 ≤ s.length) (A : Nat) (hA : A < 4294967296) : ((s.drop at_).take 4 = [UInt8.ofNat (A / 16777216), UInt8.ofNat (A / 65536 % 256), UInt8.ofNat (A / 256 % 256), UInt8.ofNat (A % 256)]) ↔ XP s at_ 4 = A := by
  have e : (s.drop at_).take 4 = [s.getD at_ 0, s.getD (at_ + 1) 0, s.getD (at_ + 2) 0, s.getD (at_ + 3) 0] := by
    apply List.ext_getElem
    · simp; omega
    · intro i h1 h2
      simp only [List.getElem_take, List.getElem_drop]
      have h3 : i < 4 := by simpa using h2
      have h4 : at_ + i < s.length := by omega
      rw [show s[at_ + i] = s.getD (at_ + i) 0 by simp [List.getD_eq_getElem?_getD, h4]]
      have : i = 0 ∨ i = 1 ∨ i = 2 ∨ i = 3 := by omega
      rcases this with rfl | rfl | rfl | rfl <;> rfl
  have hb : XP s at_ 4 = ((xI s at_ * 256 + xI s (at_ + 1)) * 256 + xI s (at_ + 2)) * 256 + xI s (at_ + 3) := by simp [XP]
  have l0 := yN s at_
  have l1 := yN s (at_ + 1)
  have l2 := yN s (at_ + 2)
  have l3 := yN s (at_ + 3)
  have key : ∀ (i n : Nat), n < 256 → (s.getD i 0 = UInt8.ofNat n ↔ xI s i = n) := by
    intro i n hn
    unfold xI
    constructor
    · intro hx; rw [hx]; simp; omega
    · intro hx; rw [← hx]; exact UInt8.ofNat_toNat.symm
  rw [e, hb]
  constructor
  · intro hx
    simp only [List.cons.injEq, and_true] at hx
    obtain ⟨x0, x1, x2, x3⟩ := hx
    rw [key _ _ (by omega)] at x0 x1 x2 x3
    omega
  · intro hx
    simp only [List.cons.injEq, and_true]
    rw [key _ _ (by omega), key _ _ (by omega), key _ _ (by omega), key _ _ (by omega)]
    omega
theorem Lj (K A : Nat) (hA : A < 4294967296) : yS.m K (A : Int) = .ok [UInt8.ofNat (A / 16777216), UInt8.ofNat (A / 65536 % 256), UInt8.ofNat (A / 256 % 256), UInt8.ofNat (A % 256)] := by
  unfold yS.m
  have q : ∀ b : Nat, yb .u32 (A : Int) (b : Int) = ((A / b : Nat) : Int) := by
    intro b
    unfold yb
    rw [show (A : Int).tdiv (b : Int) = ((A / b : Nat) : Int) by rw [Int.ofNat_tdiv]]
    have : A / b ≤ A := Nat.div_le_self _ _
    generalize A / b = q at this ⊢
    exact zb (by omega) (by omega)
  have q1 := q 16777216
  have q2 := q 65536
  have q3 := q 256
  rw [show ((16777216 : Nat) : Int) = 16777216 from rfl] at q1
  rw [show ((65536 : Nat) : Int) = 65536 from rfl] at q2
  rw [show ((256 : Nat) : Int) = 256 from rfl] at q3
  have w : ∀ b : Nat, wr .u8 (b : Int) = ((b % 256 : Nat) : Int) := fun b => by rw [Lr]; omega
  rw [q1, q2, q3, w, w, w, w]
  have : A / 16777216 % 256 = A / 16777216 := by omega
  rw [this]
  rfl
theorem Ur (K : Nat) (hK : 9000 < K) : yp.m K = .ok true := by
  obtain ⟨m, rfl⟩ : ∃ m, K = m + 9000 := ⟨K - 9000, by omega⟩
  unfold yp.m
  rw [QK _ _ _ (by decide) (by simp) (by omega), QK _ _ _ (by decide) (by simp) (by omega), QK _ _ _ (by decide) (by simp) (by omega)]
  rw [show Q2 (m + 9000) [120, 156, 3, 0, 0, 0, 0, 1, 122] 0 = ([], 8, 0) by kernel_rfl, show Q2 (m + 9000) [120, 156, 3, 0, 0, 0, 0, 2] 0 = ([], 0, 4) by kernel_rfl,
    show Q2 (m + 9000) [120, 157] 0 = ([], 0, 3) by kernel_rfl]
  rfl
end Go.Pu

namespace Go.Pu
open Go Go.Sl Go.Mo
end Go.Pu

namespace Go.Pu
open Go Go.Sl Go.Mo
def X0 (l : List Int) (n : Nat) : List Int := (List.range 16).map fun (j : Nat) => if 1 ≤ j ∧ j < n then (jK l j : Int) else 0
def Qw (l : List Int) (v : Nat) : List Int := (List.range 16).map fun (j : Nat) => if j = 0 then 0 else ((jK l j + (l.take v).count (j : Int) : Nat) : Int)
def Xu (l : List Int) (v : Nat) : List Int := (List.range l.length).map fun (j : Nat) => if j < v then (vd l j : Int) else 0
theorem KQ (l : List Int) (n : Nat) : (Qw l n).length = 16 := by simp [Qw]
theorem BX (l : List Int) (n : Nat) : (Xu l n).length = l.length := by simp [Xu]
theorem uu {α : Type} (f g : Nat → α) (m n : Nat) (x : α) (h1 : n < m → g n = x) (h2 : ∀ j, j ≠ n → g j = f j) : ((List.range m).map f).set n x = (List.range m).map g := by
  apply List.ext_getElem?
  intro j
  by_cases hj : n = j
  · subst hj
    by_cases hm : n < m
    · simp [hm, h1 hm]
    · rw [List.getElem?_eq_none (by simpa using hm), List.getElem?_eq_none (by simpa using hm)]
  · rw [List.getElem?_set_ne hj]
    simp only [List.getElem?_map]
    cases h : (List.range m)[j]? with
    | none => rfl
    | some y =>
      obtain ⟨_, hy⟩ := List.getElem?_eq_some_iff.1 h
      simp at hy
      subst hy
      simp [h2 j (fun e => hj e.symm)]
theorem KE (K : Nat) (l : List Int) (hl : l.length ≤ 320) : ∀ (k n : Nat), 1 ≤ n → n ≤ 16 → 16 < n + k →
    zJ.l1 K (Zk l) k (X0 l n) (jK l (n - 1) : Int) (n : Int) = .ok (X0 l 16) := by
  intro k
  induction k with
  | zero => intro n h1 h2 h3; omega
  | succ k ih =>
    intro n h1 h2 h3
    unfold zJ.l1
    by_cases h : n ≤ 15
    · have d1 : decide ((n : Int) ≤ (15 : Int)) = true := by simp only [decide_eq_true_eq]; omega
      have e1 : qg ((n : Int) - 1) = ((n - 1 : Nat) : Int) := by rw [qs (by omega) (by omega)]; omega
      have hf := JB hl (n - 1)
      have hc := YP hl (n - 1)
      have hp : 2 ^ (n - 1) ≤ 2 ^ 14 := Nat.pow_le_pow_right (by decide) (by omega)
      have e2 : qg ((jK l (n - 1) : Int) + (c0 l (n - 1) : Int)) = ((jK l (n - 1) + c0 l (n - 1) : Nat) : Int) := by rw [qs (by omega) (by omega)]; rfl
      have e3 : z8 .i64 ((jK l (n - 1) + c0 l (n - 1) : Nat) : Int) 1 = (jK l n : Int) := by
        have := jP (a := jK l (n - 1) + c0 l (n - 1)) (n := 1) (by omega) (by omega)
        rw [show ((1 : Nat) : Int) = 1 from rfl] at this
        rw [this, show jK l n = 2 * (jK l (n - 1) + c0 l (n - 1)) by
          obtain ⟨m, rfl⟩ : ∃ m, n = m + 1 := ⟨n - 1, by omega⟩
          rfl, Nat.mul_comm]
      have e4 : qg ((n : Int) + 1) = ((n + 1 : Nat) : Int) := by rw [qs (by omega) (by omega)]; rfl
      rw [d1, cond_true, e1, z7 (show n - 1 < 16 by omega), qf, JW (show n - 1 < 16 by omega), e2, e3]
      simp only [qC]
      rw [z7 (show n < 16 by omega), qf, e4]
      have := ih (n + 1) (by omega) (by omega) (by omega)
      rw [Nat.add_sub_cancel] at this
      rw [Int.toNat_natCast, X0, uu _ (fun (j : Nat) => if 1 ≤ j ∧ j < n + 1 then (jK l j : Int) else 0) 16 n _ (fun _ => by rw [if_pos (by omega)]) (fun j hj => by
        by_cases q : 1 ≤ j ∧ j < n
        · rw [if_pos q, if_pos (by omega)]
        · rw [if_neg q, if_neg (by omega)])]
      exact this
    · have d1 : decide ((n : Int) ≤ (15 : Int)) = false := by simp only [decide_eq_false_iff_not]; omega
      rw [d1, cond_false, show n = 16 by omega]
      rfl
theorem G0 (K : Nat) (l : List Int) (hl : l.length ≤ 320) (hK : 32 < K) : zJ.m K (Zk l) = .ok (Qw l 0) := by
  unfold zJ.m
  have := KE K l hl K 1 (by omega) (by omega) (by omega)
  rw [show X0 l 1 = List.replicate 16 0 by
    apply List.ext_getElem?
    intro j
    simp only [X0, List.getElem?_map, List.getElem?_replicate]
    by_cases hj : j < 16
    · rw [List.getElem?_range hj, if_pos hj, Option.map_some, if_neg (by omega)]
    · rw [List.getElem?_eq_none (by simpa using hj), if_neg hj]; rfl] at this
  rw [show jK l (1 - 1) = 0 from rfl, show ((0 : Nat) : Int) = 0 from rfl, show ((1 : Nat) : Int) = 1 from rfl] at this
  rw [this]
  congr 1
theorem JT (K : Nat) (l : List Int) (hok : XD l) : ∀ (k v : Nat), v ≤ l.length → l.length < v + k → x9.l1 K l k (Qw l v) (Xu l v) (v : Int) = .ok (xk l, 0) := by
  intro k
  induction k with
  | zero => intro v h1 h2; omega
  | succ k ih =>
    intro v h1 h2
    have hl := hok.1
    unfold x9.l1
    by_cases h : v < l.length
    · have d1 : decide ((v : Int) < (l.length : Int)) = true := by simp only [decide_eq_true_eq]; omega
      have e1 : qg ((v : Int) + 1) = ((v + 1 : Nat) : Int) := by rw [qs (by omega) (by omega)]; rfl
      obtain ⟨hx0, hx1⟩ := hok.2 l[v] (List.getElem_mem h)
      have ht : l.take (v + 1) = l.take v ++ [l[v]] := by rw [List.take_add_one, List.getElem?_eq_getElem h]; rfl
      have hg : l.getD v 0 = l[v] := xZ h
      have IH := ih (v + 1) (by omega) (by omega)
      rw [d1, cond_true, z7 h, qf]
      simp only [qC, yV h, e1]
      obtain ⟨n, hn⟩ := Int.eq_ofNat_of_zero_le hx0
      by_cases hp : 0 < n
      · have d2 : decide (l[v] > (0 : Int)) = true := by simp only [decide_eq_true_eq]; omega
        have hcl := Kz hok h
        have hcod : vd l v = jK l n + (l.take v).count (n : Int) := by unfold vd; rw [hg, if_pos (by omega), hn, Int.toNat_natCast]
        have e2 : rd (Qw l v) (n : Int) = (vd l v : Int) := by
          rw [yV (by rw [KQ]; omega)]
          simp only [Qw, List.getElem_map, List.getElem_range]
          rw [if_neg (by omega), hcod]
        have e3 : qg ((vd l v : Int) + 1) = ((vd l v + 1 : Nat) : Int) := by rw [qs (by omega) (by omega)]; rfl
        rw [d2, cond_true, hn, z7 (show n < 16 by omega), qf, z7 (by rw [BX]; exact h), qf, e2, e3]
        rw [Int.toNat_natCast, Int.toNat_natCast]
        rw [show (Xu l v).set v (vd l v : Int) = Xu l (v + 1) from uu _ _ _ _ _ (fun _ => by rw [if_pos (by omega)]) (fun j hj => by
          by_cases q : j < v
          · rw [if_pos q, if_pos (by omega)]
          · rw [if_neg q, if_neg (by omega)])]
        rw [show (Qw l v).set n ((vd l v + 1 : Nat) : Int) = Qw l (v + 1) from uu _ _ _ _ _ (fun _ => by
          rw [if_neg (by omega), ht, List.count_append, hcod, hn]; simp; omega) (fun j hj => by
          by_cases q : j = 0
          · rw [if_pos q, if_pos q]
          · rw [if_neg q, if_neg q, ht, List.count_append, hn]
            rw [List.count_singleton, if_neg (by simpa using fun e => hj (by omega))]; rfl)]
        exact IH
      · have d2 : decide (l[v] > (0 : Int)) = false := by simp only [decide_eq_false_iff_not]; omega
        rw [d2, cond_false]
        have h0 : l[v] = 0 := by omega
        rw [show Qw l (v + 1) = Qw l v by
          unfold Qw
          apply List.map_congr_left
          intro j _
          by_cases q : j = 0
          · rw [if_pos q, if_pos q]
          · rw [if_neg q, if_neg q, ht, List.count_append, h0, List.count_singleton, if_neg (by simp; omega)]; rfl,
          show Xu l (v + 1) = Xu l v by
          unfold Xu
          apply List.map_congr_left
          intro j _
          by_cases q : j < v
          · rw [if_pos q, if_pos (by omega)]
          · rw [if_neg q]
            by_cases q2 : j = v
            · subst q2
              rw [if_pos (by omega)]; unfold vd; rw [hg, h0, if_neg (by omega)]; rfl
            · rw [if_neg (by omega)]] at IH
        exact IH
    · have d1 : decide ((v : Int) < (l.length : Int)) = false := by simp only [decide_eq_false_iff_not]; omega
      rw [d1, cond_false]
      have : Xu l v = xk l := by
        unfold Xu xk
        apply List.map_congr_left
        intro j hj
        have : j < l.length := by simpa using hj
        rw [if_pos (by omega)]
      rw [this]
theorem KS (K : Nat) (l : List Int) (hK : 320 < K) : x9.m K l = if xe l = 0 then .ok (xk l, 0) else .ok ([], xe l) := by
  unfold x9.m
  rw [Jf K l hK]
  simp only [qN.bind_ok]
  by_cases h : xe l = 0
  · have h1 : (xe l != 0) = false := by simpa using h
    have hok := xv h
    have hl := hok.1
    rw [h1, cond_false, if_pos h, (ZY K l hK).1 hok]
    simp only [qN.bind_ok]
    rw [G0 K l hl (by omega)]
    simp only [qN.bind_ok, Int.toNat_natCast]
    have h2 : (decide (0 ≤ (l.length : Int)) && room l.length 8) = true := by
      rw [Bool.and_eq_true, decide_eq_true_eq]
      refine ⟨by omega, ?_⟩
      simp only [room, decide_eq_true_eq]; omega
    rw [h2, qf]
    simp only [qC]
    have := JT K l hok K 0 (by omega) (by omega)
    rw [show Xu l 0 = List.replicate l.length 0 by
      apply List.ext_getElem?
      intro j
      simp only [Xu, List.getElem?_map, List.getElem?_replicate]
      by_cases hj : j < l.length
      · rw [List.getElem?_range hj, if_pos hj, Option.map_some, if_neg (by omega)]
      · rw [List.getElem?_eq_none (by simpa using hj), if_neg hj]; rfl] at this
    exact this
  · have h1 : (xe l != 0) = true := by simpa using h
    rw [h1, cond_true, if_neg h]
end Go.Pu

namespace Go.Pu
open Go Go.Sl Go.Mo
theorem G2 (l : List Int) (n : Nat) : ∀ d, (jK l n + c0 l n) * 2 ^ (d + 1) ≤ jK l (n + d + 1) := by
  intro d
  induction d with
  | zero => rw [Nat.add_zero, jK]; omega
  | succ d ih =>
    rw [show n + (d + 1) + 1 = (n + d + 1) + 1 from rfl, jK, Nat.pow_succ, ← Nat.mul_assoc]
    omega
end Go.Pu

namespace Go.Pu
open Go Go.Sl Go.Mo
def qZ : Nat → Nat → List Int
  | 0, _ => []
  | n + 1, v => ((v % 2 : Nat) : Int) :: qZ n (v / 2)
theorem xz : ∀ n v, (qZ n v).length = n
  | 0, _ => rfl
  | n + 1, v => by rw [qZ, List.length_cons, xz n]
def xY (B : List Int) : Prop := ∀ b ∈ B, b = 0 ∨ b = 1
theorem xK : ∀ n v, xY (qZ n v)
  | 0, _ => by intro b hb; cases hb
  | n + 1, v => by
    intro b hb
    rw [qZ] at hb
    rcases List.mem_cons.1 hb with rfl | hb
    · omega
    · exact xK n _ b hb
theorem z4 {a b : List Int} (h1 : xY a) (h2 : xY b) : xY (a ++ b) := by
  intro x hx
  rcases List.mem_append.1 hx with h | h
  · exact h1 x h
  · exact h2 x h
theorem Q3 : ∀ n m v, qZ (n + m) v = qZ n v ++ qZ m (v / 2 ^ n)
  | 0, m, v => by simp [qZ]
  | n + 1, m, v => by
    rw [show n + 1 + m = (n + m) + 1 by omega, qZ, qZ, Q3 n m, List.cons_append, Nat.div_div_eq_div_mul, ← Nat.pow_succ']
theorem XQ : ∀ n v k, n ≤ k → qZ n (v % 2 ^ k) = qZ n v
  | 0, _, _, _ => rfl
  | n + 1, v, k, h => by
    obtain ⟨j, rfl⟩ : ∃ j, k = j + 1 := ⟨k - 1, by omega⟩
    rw [qZ, qZ]
    have e1 : v % 2 ^ (j + 1) % 2 = v % 2 := by rw [Nat.pow_succ']; exact Nat.mod_mul_right_mod v 2 (2 ^ j)
    have e2 : v % 2 ^ (j + 1) / 2 = v / 2 % 2 ^ j := by rw [Nat.pow_succ', Nat.mod_mul_right_div_self]
    rw [e1, e2, XQ n _ j (by omega)]
def nB (B : List Int) (p : Nat) : Nat → Nat
  | 0 => 0
  | n + 1 => nB B p n + (B.getD (p + n) 0).toNat * 2 ^ n
theorem XB {B : List Int} (h : xY B) (i : Nat) : B.getD i 0 = 0 ∨ B.getD i 0 = 1 := by
  by_cases hi : i < B.length
  · rw [xZ hi]; exact h _ (List.getElem_mem hi)
  · left
    rw [List.getD_eq_getElem?_getD, List.getElem?_eq_none (by omega)]; rfl
theorem VA {B : List Int} (h : xY B) (p : Nat) : ∀ n, nB B p n < 2 ^ n
  | 0 => by simp [nB]
  | n + 1 => by
    have := VA h p n
    rw [nB, Nat.pow_succ]
    rcases XB h (p + n) with h1 | h1 <;> rw [h1] <;> simp <;> omega
theorem Zv {B : List Int} (p : Nat) : ∀ n m, n ≤ m → B.length ≤ p + n → nB B p m = nB B p n
  | n, 0, h, _ => by
    have : n = 0 := by omega
    rw [this]
  | n, m + 1, h, hl => by
    by_cases hn : n = m + 1
    · rw [hn]
    · rw [nB, Zv p n m (by omega) hl, List.getD_eq_getElem?_getD, List.getElem?_eq_none (by omega)]
      simp
theorem Ka {B : List Int} (h : xY B) (p : Nat) : ∀ n j, (nB B p n).testBit j = (decide (j < n) && (B.getD (p + j) 0 == 1))
  | 0, j => by simp [nB]
  | n + 1, j => by
    have hlt := VA h p n
    have e : nB B p (n + 1) = 2 ^ n * (B.getD (p + n) 0).toNat + nB B p n := by rw [nB, Nat.mul_comm]; omega
    rw [e, Nat.testBit_two_pow_mul_add _ hlt]
    split
    · rename_i hj
      rw [Ka h p n j]
      simp [hj, show j < n + 1 by omega]
    · rename_i hj
      by_cases hjn : j = n
      · subst hjn
        rcases XB h (p + j) with h1 | h1 <;> rw [h1] <;> simp
      · have h1 : ¬ j < n + 1 := by omega
        have : (1 : Nat) < 2 ^ (j - n) := Nat.one_lt_two_pow (by omega)
        rcases XB h (p + n) with h2 | h2
        · rw [h2]; simp [h1]
        · rw [h2]
          simp only [h1, decide_false, Bool.false_and]
          exact Nat.testBit_lt_two_pow this
def yn (B : List Int) : List UInt8 := (List.range ((B.length + 7) / 8)).map fun j => UInt8.ofNat (nB B (8 * j) 8)
theorem uG (B : List Int) : (yn B).length = (B.length + 7) / 8 := by simp [yn]
theorem YO {B : List Int} (h : xY B) {i : Nat} (hi : i < B.length) : jJ (yn B) i = (B.getD i 0 == 1) := by
  unfold jJ
  have hj : i / 8 < (yn B).length := by rw [uG]; omega
  have e : (yn B).getD (i / 8) 0 = UInt8.ofNat (nB B (8 * (i / 8)) 8) := by
    rw [List.getD_eq_getElem?_getD, List.getElem?_eq_getElem hj]
    simp [yn]
  have hlt := VA h (8 * (i / 8)) 8
  rw [e, ofNat_toNat' hlt, Ka h]
  rw [show 8 * (i / 8) + i % 8 = i by omega]
  simp [Nat.mod_lt]
where ofNat_toNat' {n : Nat} (h : n < 2 ^ 8) : (UInt8.ofNat n).toNat = n := by simp; omega
theorem DV {a n : Nat} (hn : n ≤ 8) (h : a * 2 ^ n < 256) : z8 .u8 (a : Int) (n : Int) = ((a * 2 ^ n : Nat) : Int) := by
  unfold z8
  rw [Int.toNat_natCast, show min n IntKind.u8.bits = n from Nat.min_eq_left hn]
  have e : (a : Int) * 2 ^ n = ((a * 2 ^ n : Nat) : Int) := by push_cast; rfl
  rw [e]
  exact zB (by omega) (by omega)
theorem Ut (A B : List Int) (p : Nat) : ∀ n, nB (A ++ B) (A.length + p) n = nB B p n
  | 0 => rfl
  | n + 1 => by
    rw [nB, nB, Ut A B p n, Nat.add_assoc, List.getD_eq_getElem?_getD, List.getD_eq_getElem?_getD, List.getElem?_append_right (by omega), Nat.add_sub_cancel_left]
theorem Ja (R : List Int) : ∀ n v, nB (qZ n v ++ R) 0 n = v % 2 ^ n := by
  have key : ∀ n v k, k ≤ n → nB (qZ n v ++ R) 0 k = v % 2 ^ k := by
    intro n v k
    induction k with
    | zero => intro _; simp [nB, Nat.mod_one]
    | succ k ih =>
      intro h
      rw [nB, ih (by omega), Nat.zero_add]
      have e : (qZ n v ++ R).getD k 0 = ((v / 2 ^ k % 2 : Nat) : Int) := by
        rw [show n = k + (n - k) by omega, Q3, List.append_assoc, List.getD_eq_getElem?_getD, List.getElem?_append_right (by rw [xz]; omega), xz, Nat.sub_self, show n - k = (n - k - 1) + 1 by omega, qZ]
        rfl
      rw [e, Int.toNat_natCast, Nat.mod_pow_succ, Nat.mul_comm]
  intro n v
  exact key n v n (Nat.le_refl _)
end Go.Pu

namespace Go.Pu
open Go Go.Sl Go.Mo
def jg (B : List Int) : List Int := (List.range ((B.length + 7) / 8)).map fun j => ((nB B (8 * j) 8 : Nat) : Int)
theorem uy (B : List Int) : (jg B).length = (B.length + 7) / 8 := by simp [jg]
theorem DF {B : List Int} {j : Nat} (h : j < (B.length + 7) / 8) : rd (jg B) (j : Int) = ((nB B (8 * j) 8 : Nat) : Int) := by
  rw [yV (by rw [uy]; exact h)]
  simp [jg]
theorem Kx (B : List Int) : (jg B).map v8 = yn B := by
  unfold jg yn
  rw [List.map_map]
  apply List.map_congr_left
  intro j _
  simp [v8]
theorem JP (A C : List Int) (p : Nat) : ∀ n, p + n ≤ A.length → nB (A ++ C) p n = nB A p n
  | 0, _ => rfl
  | n + 1, h => by
    rw [nB, nB, JP A C p n (by omega), List.getD_eq_getElem?_getD, List.getD_eq_getElem?_getD, List.getElem?_append_left (by omega)]
theorem LC (p : Nat) (hp : p < 9223372036854775808) : xH .i64 (p : Int) 7 = ((p % 8 : Nat) : Int) := by
  have := X7 (a := p) (b := 7) hp (by omega)
  rw [show ((7 : Nat) : Int) = 7 from rfl] at this
  rw [this, show p &&& 7 = p % 8 from Nat.and_two_pow_sub_one_eq_mod p 3]
theorem G8 {a b : Nat} (ha : a < 256) (hb : b < 256) : QS .u8 (a : Int) (b : Int) = ((a ||| b : Nat) : Int) := by
  show IntKind.u8.wrap ((BitVec.ofInt 8 (a : Int) ||| BitVec.ofInt 8 (b : Int)).toNat : Int) = _
  simp only [yU, BitVec.toNat_or, BitVec.toNat_ofNat]
  rw [Nat.mod_eq_of_lt (by omega), Nat.mod_eq_of_lt (by omega)]
  have : a ||| b < 2 ^ 8 := Nat.or_lt_two_pow (by omega) (by omega)
  exact zB (by omega) (by omega)
def cb : Nat → Nat → List Int
  | 0, _ => []
  | n + 1, c => ((c / 2 ^ n % 2 : Nat) : Int) :: cb n c
theorem ZK : ∀ n c, (cb n c).length = n
  | 0, _ => rfl
  | n + 1, c => by rw [cb, List.length_cons, ZK n]
theorem Bl : ∀ n c, xY (cb n c)
  | 0, _ => by intro b hb; cases hb
  | n + 1, c => by
    intro b hb
    rw [cb] at hb
    rcases List.mem_cons.1 hb with rfl | hb
    · omega
    · exact Bl n c b hb
theorem GI (l : List Int) (i : Nat) : ∀ d, ks l i ≤ ks l (i + d)
  | 0 => Nat.le_refl _
  | d + 1 => Nat.le_trans (GI l i d) (by rw [← Nat.add_assoc, ks]; exact Nat.le_add_right _ _)
theorem G9 {l : List Int} (h : xe l = 0) : ks l 16 ≤ 32768 := by
  rcases VV h with hz | hz | hz
  · rw [(JJ (xv h)).2 hz]; omega
  · have hc : ∀ i, c0 l i = if i = 1 then 1 else 0 := by
      intro i
      by_cases h0 : 0 < i
      · rw [LD h0, hz, List.count_singleton]
        by_cases h1 : i = 1
        · subst h1; rfl
        · rw [if_neg h1, if_neg (by simp; omega)]
      · rw [show i = 0 by omega]; rfl
    have : ∀ i, ks l i = if i ≤ 1 then 0 else 16384 := by
      intro i
      induction i with
      | zero => rfl
      | succ i ih =>
        rw [ks, ih, hc]
        by_cases h1 : i = 1
        · subst h1; rfl
        · rw [if_neg h1]
          by_cases h2 : i ≤ 1
          · rw [if_pos h2, if_pos (by omega)]; omega
          · rw [if_neg h2, if_neg (by omega)]; omega
    rw [this]; decide
  · omega
theorem UZ {l : List Int} (h : xe l = 0) {s n : Nat} (hs : s < l.length) (hl : l[s] = (n : Int)) (hn : 0 < n) : vd l s < 2 ^ n := by
  have hok := xv h
  have hn15 : n ≤ 15 := by have := (hok.2 l[s] (List.getElem_mem hs)).2; omega
  have h1 := (Uj hs hl hn).1
  have h2 := GH l n hn15
  have h3 : ks l (n + 1) ≤ 32768 := by
    have := GI l (n + 1) (15 - n)
    rw [show n + 1 + (15 - n) = 16 by omega] at this
    exact Nat.le_trans this (G9 h)
  have h4 : 2 ^ n * 2 ^ (15 - n) = 32768 := by rw [← Nat.pow_add, show n + (15 - n) = 15 by omega]
  have h5 : jK l n + c0 l n ≤ 2 ^ n := Nat.le_of_mul_le_mul_right (by omega) (Nat.pow_pos (n := 15 - n) (show 0 < 2 by decide))
  omega
theorem VC {l : List Int} (h : xe l = 0) {t : List UInt8} {p s n : Nat} (hs : s < l.length) (hl : l[s] = (n : Int)) (hn : 0 < n)
    (hb : ∀ j, j < n → (jJ t (p + j)).toNat = vd l s / 2 ^ (n - 1 - j) % 2) (ht : p + n ≤ 8 * t.length) :
    ∀ (k m : Nat), m < n → n ≤ m + k → yT l t k m (vd l s / 2 ^ (n - m)) (p + m) = .ok (s, p + n) := by
  have hok := xv h
  have hn15 : n ≤ 15 := by have := (hok.2 l[s] (List.getElem_mem hs)).2; omega
  intro k
  induction k with
  | zero => intro m h1 h2; omega
  | succ k ih =>
    intro m h1 h2
    unfold yT
    rw [if_pos (DY (n := m) h1 (by omega) hs hl), if_pos (by omega)]
    have hv : 2 * (vd l s / 2 ^ (n - m)) + (jJ t (p + m)).toNat = vd l s / 2 ^ (n - (m + 1)) := by
      rw [hb m h1, show n - 1 - m = n - (m + 1) by omega, show n - m = (n - (m + 1)) + 1 by omega, Nat.pow_succ, ← Nat.div_div_eq_div_mul]
      omega
    rw [hv]
    have hc := Uj hs hl hn
    by_cases he : m + 1 = n
    · subst he
      rw [Nat.sub_self, Nat.pow_zero, Nat.div_one, if_pos hc.1]
      obtain ⟨i, hi, hil, hin, hic⟩ := Kq (l := l) (n := m + 1) (r := vd l s - jK l (m + 1)) (by omega) (by omega) (by omega)
      have := DJ hil hs hin hl hn (by omega)
      subst this
      rw [show (xi l (m + 1)).length + vd l i - jK l (m + 1) = (xi l (m + 1)).length + (vd l i - jK l (m + 1)) by omega, List.getD_eq_getElem?_getD, hi]
      simp [Nat.add_assoc]
    · have hge : jK l (m + 1) + c0 l (m + 1) ≤ vd l s / 2 ^ (n - (m + 1)) := by
        have := G2 l (m + 1) (n - (m + 1) - 1)
        rw [show m + 1 + (n - (m + 1) - 1) + 1 = n by omega, show n - (m + 1) - 1 + 1 = n - (m + 1) by omega] at this
        exact (Nat.le_div_iff_mul_le (Nat.pow_pos (by decide))).2 (by omega)
      rw [if_neg (by omega)]
      exact ih (m + 1) (by omega) (by omega)
theorem UJ {l : List Int} (h : xe l = 0) {t : List UInt8} {p s n : Nat} (hs : s < l.length) (hl : l[s] = (n : Int)) (hn : 0 < n)
    (hb : ∀ j, j < n → (jJ t (p + j)).toNat = vd l s / 2 ^ (n - 1 - j) % 2) (ht : p + n ≤ 8 * t.length) : jI l t p = .ok (s, p + n) := by
  have hn15 : n ≤ 15 := by have := ((xv h).2 l[s] (List.getElem_mem hs)).2; omega
  have := VC h hs hl hn hb ht 16 0 hn (by omega)
  rw [Nat.sub_zero, Nat.div_eq_of_lt (UZ h hs hl hn)] at this
  exact this
theorem Bm : ∀ (n c j : Nat), j < n → (cb n c).getD j 0 = ((c / 2 ^ (n - 1 - j) % 2 : Nat) : Int)
  | 0, _, _, h => by omega
  | n + 1, c, 0, _ => by rw [cb]; simp
  | n + 1, c, j + 1, h => by
    rw [cb, List.getD_cons_succ, Bm n c j (by omega), show n + 1 - 1 - (j + 1) = n - 1 - j by omega]
def sb (l : List Int) (s : Nat) : List Int := cb (l.getD s 0).toNat (vd l s)
theorem UK {l : List Int} (h : xe l = 0) {A C : List Int} {s n : Nat} (hA : xY A) (hC : xY C) (hs : s < l.length) (hl : l[s] = (n : Int)) (hn : 0 < n) :
    jI l (yn (A ++ sb l s ++ C)) A.length = .ok (s, A.length + n) := by
  have hsb : sb l s = cb n (vd l s) := by unfold sb; rw [xZ hs, hl, Int.toNat_natCast]
  rw [hsb]
  have h01 : xY (A ++ cb n (vd l s) ++ C) := z4 (z4 hA (Bl _ _)) hC
  refine UJ h hs hl hn (fun j hj => ?_) ?_
  · rw [YO h01 (by simp only [List.length_append, ZK]; omega)]
    have e : (A ++ cb n (vd l s) ++ C).getD (A.length + j) 0 = ((vd l s / 2 ^ (n - 1 - j) % 2 : Nat) : Int) := by
      rw [← Bm n _ j hj, List.append_assoc, List.getD_eq_getElem?_getD, List.getElem?_append_right (by omega), Nat.add_sub_cancel_left, List.getElem?_append_left (by rw [ZK]; exact hj), List.getD_eq_getElem?_getD]
    rw [e]
    have : vd l s / 2 ^ (n - 1 - j) % 2 < 2 := Nat.mod_lt _ (by decide)
    generalize vd l s / 2 ^ (n - 1 - j) % 2 = x at this ⊢
    rcases (show x = 0 ∨ x = 1 by omega) with rfl | rfl <;> rfl
  · rw [uG]
    simp only [List.length_append, ZK]; omega
end Go.Pu

set_option maxRecDepth 100000
namespace Go.Pu
open Go Go.Sl Go.Mo
theorem VB (B : List Int) (p a : Nat) : ∀ b, nB B p (a + b) = nB B p a + 2 ^ a * nB B (p + a) b
  | 0 => by simp [nB]
  | b + 1 => by
    rw [← Nat.add_assoc, nB, VB B p a b, nB, Nat.mul_add, Nat.pow_add, Nat.add_assoc p a b]
    have : 2 ^ a * ((B.getD (p + (a + b)) 0).toNat * 2 ^ b) = (B.getD (p + (a + b)) 0).toNat * (2 ^ a * 2 ^ b) := by
      rw [Nat.mul_left_comm]
    omega
theorem Lc {B : List Int} {n v : Nat} (hr : B.length % 8 + n ≤ 8) (hv : v < 2 ^ n) : nB (B ++ qZ n v) (8 * (B.length / 8)) 8 = nB B (8 * (B.length / 8)) 8 + v * 2 ^ (B.length % 8) := by
  have e0 : 8 * (B.length / 8) + B.length % 8 = B.length := by omega
  have h1 := VB (B ++ qZ n v) (8 * (B.length / 8)) (B.length % 8) (8 - B.length % 8)
  have h0 := JP B (qZ n v) (8 * (B.length / 8)) (B.length % 8) (by omega)
  rw [show B.length % 8 + (8 - B.length % 8) = 8 from by omega, h0, e0] at h1
  have h2 := Ut B (qZ n v) 0 (8 - B.length % 8)
  rw [Nat.add_zero] at h2
  have h3 : nB (qZ n v) 0 (8 - B.length % 8) = nB (qZ n v) 0 n := Zv 0 n _ (by omega) (by rw [xz]; omega)
  have h4 := Ja [] n v
  rw [List.append_nil, Nat.mod_eq_of_lt hv] at h4
  rw [h1, h2, h3, h4, Zv (8 * (B.length / 8)) (B.length % 8) 8 (by omega) (by omega), Nat.mul_comm v]
theorem Vz {B : List Int} (h : xY B) {n v : Nat} (hr : B.length % 8 + n ≤ 8) (hv : v < 2 ^ n) : nB (B ++ qZ n v) (8 * (B.length / 8)) 8 = nB B (8 * (B.length / 8)) 8 ||| v * 2 ^ (B.length % 8) := by
  rw [Lc hr hv, Zv (8 * (B.length / 8)) (B.length % 8) 8 (by omega) (by omega)]
  have hlt := VA h (8 * (B.length / 8)) (B.length % 8)
  have := Nat.two_pow_add_eq_or_of_lt (i := B.length % 8) (b := nB B (8 * (B.length / 8)) (B.length % 8)) hlt v
  rw [Nat.mul_comm v, Nat.add_comm, this, Nat.or_comm]
theorem Ky {B : List Int} (h : xY B) {n v : Nat} (hn : 1 ≤ n) (hr : B.length % 8 + n ≤ 8) (hv : v < 2 ^ n) :
    (if B.length % 8 = 0 then jg B ++ [0] else jg B).set (B.length / 8) ((nB B (8 * (B.length / 8)) 8 ||| v * 2 ^ (B.length % 8) : Nat) : Int) = jg (B ++ qZ n v) := by
  have hl : ((B ++ qZ n v).length + 7) / 8 = B.length / 8 + 1 := by rw [List.length_append, xz]; omega
  have other : ∀ j, j < B.length / 8 → nB (B ++ qZ n v) (8 * j) 8 = nB B (8 * j) 8 := fun j hj => JP B _ _ _ (by omega)
  unfold jg
  rw [hl]
  split
  · rename_i h0
    rw [show (B.length + 7) / 8 = B.length / 8 by omega, List.range_succ, List.map_append]
    apply List.ext_getElem?
    intro j
    by_cases hj : B.length / 8 = j
    · subst hj
      rw [List.getElem?_set_self (by simp), List.getElem?_append_right (by simp)]
      simp [Vz h hr hv]
    · rw [List.getElem?_set_ne hj]
      by_cases hlt : j < B.length / 8
      · rw [List.getElem?_append_left (by simpa using hlt), List.getElem?_append_left (by simpa using hlt)]
        simp only [List.getElem?_map, List.getElem?_range hlt, Option.map_some, other j hlt]
      · rw [List.getElem?_append_right (by simpa using Nat.le_of_not_lt hlt), List.getElem?_append_right (by simpa using Nat.le_of_not_lt hlt)]
        rw [List.getElem?_eq_none (by simp; omega), List.getElem?_eq_none (by simp; omega)]
  · rename_i h0
    rw [show (B.length + 7) / 8 = B.length / 8 + 1 by omega]
    apply List.ext_getElem?
    intro j
    by_cases hj : B.length / 8 = j
    · subst hj
      rw [List.getElem?_set_self (by simp), List.getElem?_map, List.getElem?_range (by omega), Option.map_some, Vz h hr hv]
    · rw [List.getElem?_set_ne hj]
      by_cases hlt : j < B.length / 8
      · simp only [List.getElem?_map, List.getElem?_range (show j < B.length / 8 + 1 by omega), Option.map_some, other j hlt]
      · rw [List.getElem?_eq_none (by simp; omega), List.getElem?_eq_none (by simp; omega)]
theorem Bz {a b : Nat} (ha : a < 4294967296) (hb : b < 4294967296) : xH .u32 (a : Int) (b : Int) = ((a &&& b : Nat) : Int) := by
  show IntKind.u32.wrap ((BitVec.ofInt 32 (a : Int) &&& BitVec.ofInt 32 (b : Int)).toNat : Int) = _
  simp only [yU, BitVec.toNat_and, BitVec.toNat_ofNat]
  rw [Nat.mod_eq_of_lt (by omega), Nat.mod_eq_of_lt (by omega)]
  have : a &&& b ≤ a := Nat.and_le_left
  exact zb (by omega) (by omega)
theorem Gg (K : Nat) : ∀ (k n : Nat) (v : Nat) (B : List Int), xY B → n < k → n ≤ 32 → v < 2 ^ n → B.length + n < 1099511627776 →
    qn.l1 K k (B.length : Int) (jg B) (v : Int) (n : Int) = .ok (0, ((B ++ qZ n v).length : Int), jg (B ++ qZ n v)) := by
  intro k
  induction k with
  | zero => intro n v B _ h; omega
  | succ k ih =>
    intro n v B h hk hn hv hl
    rw [qn.l1, qq]
    by_cases hn0 : n = 0
    · subst hn0
      rw [if_neg (by omega)]
      simp [qZ]
    rw [if_pos (by omega), LC B.length (by omega)]
    have e8 : yb .i64 (B.length : Int) 8 = ((B.length / 8 : Nat) : Int) := by
      have := Zs (a := B.length) (b := 8) (by omega) (by omega)
      rwa [show ((8 : Nat) : Int) = 8 from rfl] at this
    obtain ⟨m, hm⟩ : ∃ m, min n (8 - B.length % 8) = m := ⟨_, rfl⟩
    have hm1 : 1 ≤ m := by omega
    have hp32 : 2 ^ n ≤ 2 ^ 32 := Nat.pow_le_pow_right (by decide) hn
    have hpm : 2 ^ m ≤ 2 ^ 8 := Nat.pow_le_pow_right (by decide) (by omega)
    have hpm1 : 1 ≤ 2 ^ m := Nat.one_le_two_pow
    have hv32 : v < 4294967296 := by omega
    have step : ∀ W : List Int, W = (if B.length % 8 = 0 then jg B ++ [0] else jg B) →
        qn.j2 K (qn.l1 K k) (B.length : Int) (v : Int) (n : Int) W = .ok (0, ((B ++ qZ n v).length : Int), jg (B ++ qZ n v)) := by
      intro W hW
      have hWl : W.length = B.length / 8 + 1 := by
        rw [hW]; split
        · rw [List.length_append, uy]; simp; omega
        · rw [uy]; omega
      have hWr : rd W ((B.length / 8 : Nat) : Int) = ((nB B (8 * (B.length / 8)) 8 : Nat) : Int) := by
        rw [hW]; split
        · rename_i h0
          rw [yV (by rw [List.length_append, uy]; simp; omega), List.getElem_append_right (by rw [uy]; omega)]
          rw [Zv _ 0 8 (by omega) (by omega)]
          simp [nB]
        · rename_i h0
          exact DF (by omega)
      unfold qn.j2
      rw [LC B.length (by omega), e8]
      have e1 : qg ((8 : Int) - ((B.length % 8 : Nat) : Int)) = ((8 - B.length % 8 : Nat) : Int) := by rw [qs (by omega) (by omega)]; omega
      have e2 : (if (n : Int) < ((8 - B.length % 8 : Nat) : Int) then (n : Int) else ((8 - B.length % 8 : Nat) : Int)) = (m : Int) := by split <;> omega
      rw [e1, e2, qC, z7 (by rw [hWl]; omega), qf, zQ (by omega), qf, zQ (by omega), qf, hWr, Int.toNat_natCast, qC]
      have e3 : z8 .u32 1 (m : Int) = ((2 ^ m : Nat) : Int) := by
        have := Vs (a := 1) (n := m) (by omega) (by omega)
        rw [show ((1 : Nat) : Int) = 1 from rfl] at this
        rw [this, Nat.one_mul]
      have e4 : wr .u8 (xH .u32 (v : Int) (wr .u32 (z8 .u32 1 (m : Int) - 1))) = ((v % 2 ^ m : Nat) : Int) := by
        rw [e3, show (((2 ^ m : Nat) : Int) - 1) = ((2 ^ m - 1 : Nat) : Int) from by omega, zb (by omega) (by omega), Bz hv32 (by omega), Nat.and_two_pow_sub_one_eq_mod]
        have := Nat.mod_lt v (show 2 ^ m > 0 from by omega)
        exact zB (by omega) (by omega)
      have hvm := Nat.mod_lt v (show 2 ^ m > 0 from by omega)
      have hlt := VA h (8 * (B.length / 8)) 8
      have hp8 : v % 2 ^ m * 2 ^ (B.length % 8) < 256 := by
        have h1 : v % 2 ^ m * 2 ^ (B.length % 8) < 2 ^ m * 2 ^ (B.length % 8) := Nat.mul_lt_mul_of_pos_right hvm (Nat.two_pow_pos _)
        rw [← Nat.pow_add] at h1
        have h2 : 2 ^ (m + B.length % 8) ≤ 2 ^ 8 := Nat.pow_le_pow_right (by decide) (by omega)
        omega
      have e5 : xb .u32 (v : Int) (m : Int) = ((v / 2 ^ m : Nat) : Int) := yt (by show m ≤ 32; omega)
      rw [e4, DV (by omega) hp8, G8 (by omega) hp8, hW, Ky h hm1 (by omega) hvm, e5, qC, qC]
      have e6 : qg ((n : Int) - (m : Int)) = ((n - m : Nat) : Int) := by rw [qs (by omega) (by omega)]; omega
      have e7 : qg ((B.length : Int) + (m : Int)) = ((B ++ qZ m (v % 2 ^ m)).length : Int) := by rw [qs (by omega) (by omega), List.length_append, xz]; omega
      have hdiv : v / 2 ^ m < 2 ^ (n - m) := by
        rw [Nat.div_lt_iff_lt_mul (by omega), ← Nat.pow_add, show n - m + m = n from by omega]; exact hv
      rw [e6, e7, ih (n - m) (v / 2 ^ m) _ (z4 h (xK _ _)) (by omega) (by omega) hdiv (by rw [List.length_append, xz]; omega)]
      have hb : qZ n v = qZ m (v % 2 ^ m) ++ qZ (n - m) (v / 2 ^ m) := by
        rw [XQ m v m (Nat.le_refl _), ← Q3, show m + (n - m) = n from by omega]
      rw [hb, List.append_assoc]
    by_cases h0 : B.length % 8 = 0
    · rw [h0, show (((0 : Nat) : Int) == 0) = true from rfl, cond_true, zh (by rw [uy]; simp only [List.length_cons, List.length_nil]; omega), qf, qC]
      exact step _ (by rw [if_pos h0])
    · have : (((B.length % 8 : Nat) : Int) == 0) = false := by rw [beq_eq_false_iff_ne]; omega
      rw [this, cond_false]
      exact step _ (by rw [if_neg h0])
theorem YM (K : Nat) (B : List Int) (h : xY B) (n v : Nat) (hn : n ≤ 32) (hv : v < 2 ^ n) (hl : B.length + n < 1099511627776) (hK : 32 < K) (lc dc : qv) :
    qn.m K ⟨⟨⟨(B.length : Int)⟩, jg B⟩, lc, dc⟩ (v : Int) (n : Int) = .ok (0, ((B ++ qZ n v).length : Int), jg (B ++ qZ n v)) := by
  unfold qn.m
  have hp32 : 2 ^ n ≤ 2 ^ 32 := Nat.pow_le_pow_right (by decide) hn
  have d0 : (decide ((n : Int) < 0) || decide ((n : Int) > 32)) = false := by simp only [Bool.or_eq_false_iff, decide_eq_false_iff_not]; omega
  have d1 : xb .u64 (wr .u64 (v : Int)) (n : Int) = 0 := by
    rw [ze (by omega) (by omega), yt (by show n ≤ 64; omega), Nat.div_eq_of_lt hv]; rfl
  rw [d0, d1, show imp false false (decide ((0 : Int) ≤ (n : Int))) = true from by rw [zQ (by omega)]; rfl, qf, show (false || decide ((0 : Int) > 0)) = false from rfl, cond_false]
  exact Gg K K n v B h (by omega) hn hv hl
end Go.Pu

set_option maxRecDepth 100000
namespace Go.Pu
open Go Go.Sl Go.Mo
abbrev jW := qM
def uf (t : jW) : Bool := if t.Dist_ = 0 then decide (t.Len_ = 0) else decide (1 ≤ t.Dist_ ∧ t.Dist_ ≤ 32768 ∧ 3 ≤ t.Len_ ∧ t.Len_ ≤ 258 ∧ t.Lit_ = 0)
theorem Gd (K : Nat) (t : jW) : vW.m K t = .ok (uf t) := by
  unfold vW.m uf
  rw [qY]
  by_cases h : t.Dist_ = 0
  · rw [if_pos h, if_pos h, qC]; rfl
  · rw [if_neg h, if_neg h, qC]
    congr 1
    rw [Bool.eq_iff_iff]
    simp only [Bool.and_eq_true, decide_eq_true_eq, beq_iff_eq]
    omega
def QT (n : Nat) : Nat := if n = 258 then 285 else (List.range 28).foldl (fun out k => if (lenOf (257 + k)).1 ≤ n then 257 + k else out) 257
def Qn (n : Nat) : Nat := (List.range 30).foldl (fun out k => if (yy k).1 ≤ n then k else out) 0
theorem Bx {f : Nat → Nat} {p : Nat → Prop} [DecidablePred p] (s0 d : Nat) : ∀ m, (∀ k, k < m → (p k ↔ k ≤ s0)) → (List.range m).foldl (fun out k => if p k then f k else out) d = if m = 0 then d else f (min s0 (m - 1))
  | 0, _ => rfl
  | m + 1, h => by
    rw [List.range_succ, List.foldl_append, Bx s0 d m (fun k hk => h k (by omega))]
    simp only [List.foldl_cons, List.foldl_nil]
    have := h m (by omega)
    rw [if_neg (by omega : ¬ m + 1 = 0)]
    by_cases hm : m ≤ s0
    · rw [if_pos (this.2 hm)]; congr 1; omega
    · rw [if_neg (fun hp => hm (this.1 hp))]
      by_cases h0 : m = 0
      · omega
      · rw [if_neg h0]; congr 1; omega
theorem UN (K : Nat) (n told : Nat) (hn : n < 1048576) (ht : told ≤ 2) : ∀ (j k top : Nat), top < j → k + top < 1048576 → k ≤ 20 → top * 2 ^ k ≤ n → n < (top + 1) * 2 ^ k → (k = 0 ∨ 2 ^ told ≤ top) →
    ∃ k' top', k' ≤ 20 ∧ top' * 2 ^ k' ≤ n ∧ n < (top' + 1) * 2 ^ k' ∧ (k' = 0 ∨ 2 ^ told ≤ top') ∧ top' < 2 ^ (told + 1) ∧
      z6.l1 K (n : Int) (told : Int) j (k : Int) (top : Int) = .ok (((k' * 2 ^ told + top' : Nat) : Int), (k' : Int), ((n - top' * 2 ^ k' : Nat) : Int)) := by
  intro j
  induction j with
  | zero => intro k top h; omega
  | succ j ih =>
    intro k top h1 h2 h20 h3 h4 h5
    have hpt : 2 ^ told ≤ 2 ^ 2 := Nat.pow_le_pow_right (by decide) ht
    have hpt1 : 1 ≤ 2 ^ told := Nat.one_le_two_pow
    have e2 : z8 .i64 2 (told : Int) = ((2 ^ (told + 1) : Nat) : Int) := by
      have := jP (a := 2) (n := told) (by omega) (by omega)
      rw [show ((2 : Nat) : Int) = 2 from rfl] at this
      rw [this, Nat.pow_succ, Nat.mul_comm]
    rw [z6.l1, zQ (by omega), qf, e2, qq]
    have hps : 2 ^ (told + 1) = 2 * 2 ^ told := by rw [Nat.pow_succ, Nat.mul_comm]
    by_cases hc : 2 ^ (told + 1) ≤ top
    · have hk20 : k < 20 := by
        refine Nat.lt_of_not_le fun hge => ?_
        have h6 : 2 ^ 20 ≤ 2 ^ k := Nat.pow_le_pow_right (by decide) hge
        have h7 : 1 * 2 ^ 20 ≤ top * 2 ^ k := Nat.mul_le_mul (by omega) h6
        omega
      have e3 : xb .i64 (top : Int) 1 = ((top / 2 : Nat) : Int) := by
        have := yt (k := .i64) (a := top) (n := 1) (by decide)
        rw [show ((1 : Nat) : Int) = 1 from rfl] at this
        rw [this]
      rw [if_pos (by omega), e3, qC, qC, show qg ((k : Int) + 1) = ((k + 1 : Nat) : Int) from by rw [qs (by omega) (by omega)]; rfl]
      refine ih (k + 1) (top / 2) (by omega) (by omega) (by omega) ?_ ?_ (by omega)
      · rw [Nat.pow_succ]
        have : top / 2 * (2 ^ k * 2) ≤ top * 2 ^ k := by rw [Nat.mul_comm (2 ^ k) 2, ← Nat.mul_assoc]; exact Nat.mul_le_mul_right _ (by omega)
        omega
      · rw [Nat.pow_succ]
        have : (top + 1) * 2 ^ k ≤ (top / 2 + 1) * (2 ^ k * 2) := by rw [Nat.mul_comm (2 ^ k) 2, ← Nat.mul_assoc]; exact Nat.mul_le_mul_right _ (by omega)
        omega
    · rw [if_neg (by omega)]
      refine ⟨k, top, h20, h3, h4, h5, by omega, ?_⟩
      unfold z6.j2
      have hk : k * 2 ^ told ≤ 20 * 4 := Nat.mul_le_mul h20 (by omega)
      rw [zQ (by omega), qf, zQ (by omega), qf, jP (by omega) (by omega), jP (by omega) (by omega), qs (by omega) (by omega), qs (x := (n : Int) - _) (by omega) (by omega), zb (by omega) (by omega)]
      congr 2
      congr 1
      omega
theorem Yl (K : Nat) (n told : Nat) (hn : n < 1048576) (ht : told ≤ 2) (hK : n < K) : ∃ k top, k ≤ 20 ∧ top * 2 ^ k ≤ n ∧ n < (top + 1) * 2 ^ k ∧ (k = 0 ∨ 2 ^ told ≤ top) ∧ top < 2 ^ (told + 1) ∧
    z6.m K (n : Int) (told : Int) = .ok (((k * 2 ^ told + top : Nat) : Int), (k : Int), ((n - top * 2 ^ k : Nat) : Int)) := by
  unfold z6.m
  exact UN K n told hn ht K 0 n hK (by omega) (by omega) (by simp) (by simp) (.inl rfl)
theorem JK : ∀ k, k < 6 → ∀ top, top < 8 → (k = 0 ∨ 4 ≤ top) → lenOf (257 + (k * 4 + top)) = (3 + top * 2 ^ k, k) := by decide
theorem Jx : ∀ k, k < 14 → ∀ top, top < 4 → (k = 0 ∨ 2 ≤ top) → yy (k * 2 + top) = (1 + top * 2 ^ k, k) := by decide
theorem Vv : ∀ j, j < 28 → ∀ i, i < j → (lenOf (257 + i)).1 < (lenOf (257 + j)).1 := by decide
theorem Vg : ∀ j, j < 30 → ∀ i, i < j → (yy i).1 < (yy j).1 := by decide
theorem D0 {n s : Nat} (hs : s < 28) (hn : n ≠ 258) (h1 : (lenOf (257 + s)).1 ≤ n) (h2 : s = 27 ∨ n < (lenOf (257 + (s + 1))).1) : QT n = 257 + s := by
  unfold QT
  rw [if_neg hn, Bx (f := fun k => 257 + k) (p := fun k => (lenOf (257 + k)).1 ≤ n) s 257 28 (fun k hk => ?_)]
  · simp only [if_neg (by decide : ¬ 28 = 0)]; omega
  · constructor
    · intro hle
      refine Nat.le_of_not_lt fun hlt => ?_
      rcases h2 with h2 | h2
      · omega
      · by_cases he : k = s + 1
        · subst he; omega
        · have := Vv k hk (s + 1) (by omega); omega
    · intro hle
      by_cases he : k = s
      · subst he; exact h1
      · have := Vv s hs k (by omega); omega
theorem DP {n s : Nat} (hs : s < 30) (h1 : (yy s).1 ≤ n) (h2 : s = 29 ∨ n < (yy (s + 1)).1) : Qn n = s := by
  unfold Qn
  rw [Bx (f := fun k => k) (p := fun k => (yy k).1 ≤ n) s 0 30 (fun k hk => ?_)]
  · simp only [if_neg (by decide : ¬ 30 = 0)]; omega
  · constructor
    · intro hle
      refine Nat.le_of_not_lt fun hlt => ?_
      rcases h2 with h2 | h2
      · omega
      · by_cases he : k = s + 1
        · subst he; omega
        · have := Vg k hk (s + 1) (by omega); omega
    · intro hle
      by_cases he : k = s
      · subst he; exact h1
      · have := Vg s hs k (by omega); omega
structure LA (n s e : Nat) : Prop where
  eq : QT n = s
  lo : 257 ≤ s
  hi : s ≤ 285
  sum : (lenOf s).1 + e = n
  bits : e < 2 ^ (lenOf s).2
  small : (lenOf s).2 ≤ 5
structure Lz (n s e : Nat) : Prop where
  eq : Qn n = s
  hi : s ≤ 29
  sum : (yy s).1 + e = n
  bits : e < 2 ^ (yy s).2
  small : (yy s).2 ≤ 13
theorem Q9 (K : Nat) (n : Nat) (h3 : 3 ≤ n) (h258 : n ≤ 258) (hK : 300 < K) : ∃ s e, LA n s e ∧ yP.m K (n : Int) = .ok ((s : Int), ((lenOf s).2 : Int), (e : Int)) := by
  unfold yP.m
  rw [qY]
  by_cases h : n = 258
  · subst h
    rw [if_pos (show ((258 : Nat) : Int) = 258 from rfl)]
    exact ⟨285, 0, ⟨rfl, by decide, by decide, by decide, by decide, by decide⟩, by rfl⟩
  · rw [if_neg (by omega), show qg ((n : Int) - 3) = ((n - 3 : Nat) : Int) from by rw [qs (by omega) (by omega)]; omega]
    obtain ⟨k, top, q1, q2, q3, q4, q5, q6⟩ := Yl K (n - 3) 2 (by omega) (by omega) (by omega)
    rw [show ((2 : Nat) : Int) = 2 from rfl] at q6
    have hk : k < 6 := by
      refine Nat.lt_of_not_le fun hge => ?_
      have h6 : 2 ^ 6 ≤ 2 ^ k := Nat.pow_le_pow_right (by decide) hge
      have h7 : 4 * 2 ^ 6 ≤ top * 2 ^ k := Nat.mul_le_mul (by omega) h6
      omega
    have ht := JK k hk top (by omega) (by omega)
    have hlt28 : k * 4 + top < 28 := by
      refine Nat.lt_of_not_le fun hge => ?_
      omega
    have hnext : k * 4 + top = 27 ∨ n < (lenOf (257 + (k * 4 + top + 1))).1 := by
      by_cases h27 : k * 4 + top = 27
      · exact .inl h27
      · right
        by_cases h7 : top = 7
        · have := JK (k + 1) (by omega) 4 (by decide) (.inr (by decide))
          rw [show (k + 1) * 4 + 4 = k * 4 + top + 1 from by omega] at this
          rw [this, Nat.pow_succ]
          simp only
          subst h7; omega
        · have := JK k hk (top + 1) (by omega) (by omega)
          rw [show k * 4 + (top + 1) = k * 4 + top + 1 from by omega] at this
          rw [this]
          simp only
          omega
    refine ⟨257 + (k * 4 + top), n - 3 - top * 2 ^ k, ⟨D0 hlt28 h (by rw [ht]; simp only; omega) hnext, by omega, by omega, by rw [ht]; simp only; omega, ?_, by rw [ht]; simp only; omega⟩, ?_⟩
    · rw [ht]; simp only; rw [Nat.add_mul, Nat.one_mul] at q3; omega
    · rw [q6, qN.bind_ok]
      dsimp only
      rw [ht, qs (by omega) (by omega)]
      congr 2
      omega
theorem u5 (K : Nat) (n : Nat) (h1 : 1 ≤ n) (h2 : n ≤ 32768) (hK : 32768 < K) : ∃ s e, Lz n s e ∧ yA.m K (n : Int) = .ok ((s : Int), ((yy s).2 : Int), (e : Int)) := by
  unfold yA.m
  rw [show qg ((n : Int) - 1) = ((n - 1 : Nat) : Int) from by rw [qs (by omega) (by omega)]; omega]
  obtain ⟨k, top, q1, q2, q3, q4, q5, q6⟩ := Yl K (n - 1) 1 (by omega) (by omega) (by omega)
  rw [show ((1 : Nat) : Int) = 1 from rfl] at q6
  have hk : k < 14 := by
    refine Nat.lt_of_not_le fun hge => ?_
    have h6 : 2 ^ 14 ≤ 2 ^ k := Nat.pow_le_pow_right (by decide) hge
    have h7 : 2 * 2 ^ 14 ≤ top * 2 ^ k := Nat.mul_le_mul (by omega) h6
    omega
  have ht := Jx k hk top (by omega) (by omega)
  have hnext : k * 2 + top = 29 ∨ n < (yy (k * 2 + top + 1)).1 := by
    by_cases h27 : k * 2 + top = 29
    · exact .inl h27
    · right
      by_cases h7 : top = 3
      · have := Jx (k + 1) (by omega) 2 (by decide) (.inr (by decide))
        rw [show (k + 1) * 2 + 2 = k * 2 + top + 1 from by omega] at this
        rw [this, Nat.pow_succ]
        simp only
        subst h7; omega
      · have := Jx k hk (top + 1) (by omega) (by omega)
        rw [show k * 2 + (top + 1) = k * 2 + top + 1 from by omega] at this
        rw [this]
        simp only
        omega
  refine ⟨k * 2 + top, n - 1 - top * 2 ^ k, ⟨DP (by omega) (by rw [ht]; simp only; omega) hnext, by omega, by rw [ht]; simp only; omega, ?_, by rw [ht]; simp only; omega⟩, ?_⟩
  · rw [ht]; simp only; rw [Nat.add_mul, Nat.one_mul] at q3; omega
  · rw [q6, qN.bind_ok]
    dsimp only
    rw [ht]
end Go.Pu

set_option maxRecDepth 100000
namespace Go.Pu
open Go Go.Sl Go.Mo
abbrev PK := qb
theorem y9 {α : Type} [Inhabited α] (A : List α) (x : α) (B : List α) {i : Int} (h : i = (A.length : Int)) : rd (A ++ x :: B) i = x := by
  subst h; simp [rd, List.getD]
theorem uw {α : Type} (A : List α) (x y : α) (B : List α) {i : Int} (h : i = (A.length : Int)) : (A ++ x :: B).set (Int.toNat i) y = A ++ y :: B := by
  subst h; simp
theorem y5 {α : Type} (A : List α) (x : α) (B : List α) {i : Int} (h : i = (A.length : Int)) : inb i (A ++ x :: B).length = true := by
  subst h; simp [inb]; omega
theorem ju (x : PK) : qb.mk x.often_ x.symbols_ = x := rfl
theorem MY (K : Nat) : ∀ (k : Nat) (P Y1 X2 M X1 Y2 Q : List PK), Y1.length = X1.length → X2.length = Y2.length → X2.length < k → (P ++ Y1 ++ X2 ++ M ++ X1 ++ Y2 ++ Q).length < 1099511627776 →
    qJ.l1 K (P.length : Int) ((P.length + (Y1.length + X2.length) + M.length : Nat) : Int) ((Y1.length + X2.length : Nat) : Int) k (P ++ Y1 ++ X2 ++ M ++ X1 ++ Y2 ++ Q) (Y1.length : Int) =
      .ok (P ++ Y1 ++ Y2 ++ M ++ X1 ++ X2 ++ Q) := by
  intro k
  induction k with
  | zero => intro P Y1 X2 M X1 Y2 Q _ _ h; omega
  | succ k ih =>
    intro P Y1 X2 M X1 Y2 Q h1 h2 h3 h4
    rw [qJ.l1]
    cases X2 with
    | nil =>
      have : Y2 = [] := List.length_eq_zero_iff.1 h2.symm
      subst this
      rw [qq, if_neg (by simp)]
    | cons x X2 =>
      cases Y2 with
      | nil => simp at h2
      | cons y Y2 =>
        simp only [List.length_cons, List.length_append] at h2 h3 h4
        have e1 : P ++ Y1 ++ (x :: X2) ++ M ++ X1 ++ (y :: Y2) ++ Q = (P ++ Y1) ++ x :: (X2 ++ M ++ X1 ++ (y :: (Y2 ++ Q))) := by simp
        have e2 : P ++ Y1 ++ (x :: X2) ++ M ++ X1 ++ (y :: Y2) ++ Q = (P ++ Y1 ++ (x :: X2) ++ M ++ X1) ++ y :: (Y2 ++ Q) := by simp
        have ha : qg ((P.length : Int) + (Y1.length : Int)) = ((P ++ Y1).length : Int) := by rw [qs (by omega) (by omega), List.length_append]; omega
        have hb : qg (((P.length + (Y1.length + (x :: X2).length) + M.length : Nat) : Int) + (Y1.length : Int)) = ((P ++ Y1 ++ (x :: X2) ++ M ++ X1).length : Int) := by
          simp only [List.length_cons, List.length_append]; rw [qs (by omega) (by omega)]; omega
        rw [qq, if_pos (by simp only [List.length_cons]; omega), ha, hb]
        rw [show inb ((P ++ Y1 ++ (x :: X2) ++ M ++ X1).length : Int) (P ++ Y1 ++ (x :: X2) ++ M ++ X1 ++ (y :: Y2) ++ Q).length = true from by rw [e2]; exact y5 _ _ _ rfl, qf]
        rw [show inb ((P ++ Y1).length : Int) (P ++ Y1 ++ (x :: X2) ++ M ++ X1 ++ (y :: Y2) ++ Q).length = true from by rw [e1]; exact y5 _ _ _ rfl, qf]
        rw [show rd (P ++ Y1 ++ (x :: X2) ++ M ++ X1 ++ (y :: Y2) ++ Q) ((P ++ Y1 ++ (x :: X2) ++ M ++ X1).length : Int) = y from by rw [e2]; exact y9 _ _ _ rfl]
        rw [show rd (P ++ Y1 ++ (x :: X2) ++ M ++ X1 ++ (y :: Y2) ++ Q) ((P ++ Y1).length : Int) = x from by rw [e1]; exact y9 _ _ _ rfl]
        rw [ju, ju, qC, e1, uw _ _ _ _ rfl]
        have e3 : (P ++ Y1) ++ y :: (X2 ++ M ++ X1 ++ (y :: (Y2 ++ Q))) = (P ++ Y1 ++ (y :: X2) ++ M ++ X1) ++ y :: (Y2 ++ Q) := by simp
        have e4 : ((P ++ Y1 ++ (x :: X2) ++ M ++ X1).length : Int) = ((P ++ Y1 ++ (y :: X2) ++ M ++ X1).length : Int) := by simp
        rw [e3, e4, y5 _ _ _ rfl, qf, uw _ _ _ _ rfl, qC, qC]
        have hw : qg ((Y1.length : Int) + 1) = ((Y1 ++ [y]).length : Int) := by rw [qs (by omega) (by omega), List.length_append]; rfl
        rw [hw]
        have := ih P (Y1 ++ [y]) X2 M (X1 ++ [x]) Y2 Q (by simp [h1]) (by omega) (by omega) (by simp only [List.length_append, List.length_cons, List.length_nil]; omega)
        simp only [List.length_append, List.length_cons, List.length_nil, List.append_assoc, List.cons_append, List.nil_append, Nat.zero_add] at this ⊢
        rw [show Y1.length + (X2.length + 1) = Y1.length + (1 + X2.length) from by omega]
        simp only [← Nat.add_assoc] at this ⊢
        exact this
theorem Dt (K : Nat) (P X M Y Q : List PK) (h : X.length = Y.length) (hK : X.length < K) (hl : (P ++ X ++ M ++ Y ++ Q).length < 1099511627776) {a b n : Int} (ha : a = (P.length : Int)) (hb : b = ((P.length + X.length + M.length : Nat) : Int)) (hn : n = (X.length : Int)) :
    qJ.m K (P ++ X ++ M ++ Y ++ Q) a b n = .ok (P ++ Y ++ M ++ X ++ Q) := by
  subst ha; subst hb; subst hn
  have := MY K K P [] X M [] Y Q rfl h hK (by simpa using hl)
  simpa [qJ.m] using this
theorem Mn (K : Nat) (hKl : 0 < K) : ∀ (k : Nat) (P X Y Q : List PK), 0 < X.length → 0 < Y.length → X.length + Y.length < k → (P ++ X ++ Y ++ Q).length < 1099511627776 → (P ++ X ++ Y ++ Q).length < K →
    qw.l1 K ((P.length + X.length : Nat) : Int) k (P ++ X ++ Y ++ Q) (X.length : Int) (Y.length : Int) = .ok (P ++ Y ++ X ++ Q) := by
  intro k
  induction k with
  | zero => intro P X Y Q _ _ h; omega
  | succ k ih =>
    intro P X Y Q hx hy h3 h4 h5
    simp only [List.length_append] at h4 h5
    rw [qw.l1, zr]
    by_cases he : (X.length : Int) = (Y.length : Int)
    · rw [if_pos he]
      unfold qw.j2
      have := Dt K P X [] Y Q (by omega) (by omega) (by simp only [List.length_append, List.length_nil]; omega) (a := qg (((P.length + X.length : Nat) : Int) - (X.length : Int))) (b := ((P.length + X.length : Nat) : Int)) (n := (X.length : Int))
        (by rw [qs (by omega) (by omega)]; omega) (by simp) rfl
      simp only [List.append_nil] at this
      rw [this]; rfl
    · rw [if_neg he, qq]
      by_cases hg : (X.length : Int) > (Y.length : Int)
      · rw [if_pos hg]
        obtain ⟨X1, X2, rfl, hX1⟩ : ∃ X1 X2, X = X1 ++ X2 ∧ X1.length = Y.length := ⟨X.take Y.length, X.drop Y.length, by simp, by rw [List.length_take]; omega⟩
        simp only [List.length_append] at h3 h4 h5 hx hg he
        have := Dt K P X1 X2 Y Q (by omega) (by omega) (by simp only [List.length_append]; omega) (a := qg (((P.length + (X1 ++ X2).length : Nat) : Int) - ((X1 ++ X2).length : Int))) (b := ((P.length + (X1 ++ X2).length : Nat) : Int)) (n := (Y.length : Int))
          (by simp only [List.length_append]; rw [qs (by omega) (by omega)]; omega) (by simp only [List.length_append]; omega) (by omega)
        rw [show P ++ (X1 ++ X2) ++ Y ++ Q = P ++ X1 ++ X2 ++ Y ++ Q from by simp, this, qN.bind_ok, qC]
        have hw : qg (((X1 ++ X2).length : Int) - (Y.length : Int)) = (X2.length : Int) := by simp only [List.length_append]; rw [qs (by omega) (by omega)]; omega
        rw [hw]
        have := ih (P ++ Y) X2 X1 Q (by omega) (by omega) (by omega) (by simp only [List.length_append]; omega) (by simp only [List.length_append]; omega)
        rw [hX1] at this
        rw [show ((P.length + (X1 ++ X2).length : Nat) : Int) = (((P ++ Y).length + X2.length : Nat) : Int) from by simp only [List.length_append]; omega, this]
        simp
      · rw [if_neg hg]
        obtain ⟨Y1, Y2, rfl, hY2⟩ : ∃ Y1 Y2, Y = Y1 ++ Y2 ∧ Y2.length = X.length := ⟨Y.take (Y.length - X.length), Y.drop (Y.length - X.length), by simp, by rw [List.length_drop]; omega⟩
        simp only [List.length_append] at h3 h4 h5 hy hg he
        have := Dt K P X Y1 Y2 Q (by omega) (by omega) (by simp only [List.length_append]; omega) (a := qg (((P.length + X.length : Nat) : Int) - (X.length : Int))) (b := qg (qg (((P.length + X.length : Nat) : Int) + ((Y1 ++ Y2).length : Int)) - (X.length : Int))) (n := (X.length : Int))
          (by rw [qs (by omega) (by omega)]; omega) (by simp only [List.length_append]; rw [qs (x := ((P.length + X.length : Nat) : Int) + _) (by omega) (by omega), qs (by omega) (by omega)]; omega) rfl
        rw [show P ++ X ++ (Y1 ++ Y2) ++ Q = P ++ X ++ Y1 ++ Y2 ++ Q from by simp, this, qN.bind_ok, qC]
        have hw : qg (((Y1 ++ Y2).length : Int) - (X.length : Int)) = (Y1.length : Int) := by simp only [List.length_append]; rw [qs (by omega) (by omega)]; omega
        rw [hw]
        have := ih P Y2 Y1 (X ++ Q) (by omega) (by omega) (by omega) (by simp only [List.length_append]; omega) (by simp only [List.length_append]; omega)
        rw [hY2] at this
        rw [show P ++ Y2 ++ Y1 ++ X ++ Q = P ++ Y2 ++ Y1 ++ (X ++ Q) from by simp, this]
        simp
theorem Lk (K : Nat) (P X Y Q : List PK) (hx : 0 < X.length) (hy : 0 < Y.length) (h4 : (P ++ X ++ Y ++ Q).length < 1099511627776) (h5 : (P ++ X ++ Y ++ Q).length < K) {a m b : Int} (ha : a = (P.length : Int)) (hm : m = ((P.length + X.length : Nat) : Int))
    (hb : b = ((P.length + X.length + Y.length : Nat) : Int)) : qw.m K (P ++ X ++ Y ++ Q) a m b = .ok (P ++ Y ++ X ++ Q) := by
  subst ha; subst hm; subst hb
  unfold qw.m
  have h4' := h4; have h5' := h5
  simp only [List.length_append] at h4' h5'
  rw [qC, qC, show qg (((P.length + X.length : Nat) : Int) - (P.length : Int)) = (X.length : Int) from by rw [qs (by omega) (by omega)]; omega,
    show qg (((P.length + X.length + Y.length : Nat) : Int) - ((P.length + X.length : Nat) : Int)) = (Y.length : Int) from by rw [qs (by omega) (by omega)]; omega]
  exact Mn K (by omega) K P X Y Q hx hy (by omega) h4 h5
def jL (l : List PK) : Prop := l.Pairwise fun x y => x.often_ ≤ y.often_
def SS (l l' : List PK) : Prop := jL l' ∧ l'.Perm l ∧ ∀ k : Int, l'.filter (fun x => x.often_ == k) = l.filter (fun x => x.often_ == k)
theorem jL.append {A B : List PK} (ha : jL A) (hb : jL B) (h : ∀ x ∈ A, ∀ y ∈ B, x.often_ ≤ y.often_) : jL (A ++ B) := List.pairwise_append.2 ⟨ha, hb, h⟩
theorem jL.left {A B : List PK} (h : jL (A ++ B)) : jL A := (List.pairwise_append.1 h).1
theorem jL.right {A B : List PK} (h : jL (A ++ B)) : jL B := (List.pairwise_append.1 h).2.1
theorem jL.cross {A B : List PK} (h : jL (A ++ B)) : ∀ x ∈ A, ∀ y ∈ B, x.often_ ≤ y.often_ := (List.pairwise_append.1 h).2.2
theorem SS.refl {l : List PK} (h : jL l) : SS l l := ⟨h, List.Perm.refl _, fun _ => rfl⟩
theorem Qp {X Y : List PK} (h : ∀ x ∈ X, ∀ y ∈ Y, y.often_ < x.often_) (k : Int) : (X ++ Y).filter (fun x => x.often_ == k) = (Y ++ X).filter (fun x => x.often_ == k) := by
  simp only [List.filter_append]
  by_cases hx : X.filter (fun x => x.often_ == k) = []
  · rw [hx]; simp
  · have : Y.filter (fun x => x.often_ == k) = [] := by
      obtain ⟨x, hx⟩ := List.exists_mem_of_ne_nil _ hx
      rw [List.mem_filter] at hx
      rw [List.filter_eq_nil_iff]
      intro y hy
      have := h x hx.1 y hy
      have h2 : x.often_ = k := by simpa using hx.2
      simp only [beq_iff_eq]; omega
    rw [this]; simp
end Go.Pu

set_option maxRecDepth 100000
namespace Go.Pu
open Go Go.Sl Go.Mo
theorem uI {α : Type} (A : List α) : A = [] ∨ ∃ A' z, A = A' ++ [z] := by
  rcases List.eq_nil_or_concat A with h | ⟨A', z, h⟩
  · exact .inl h
  · exact .inr ⟨A', z, by rw [h]; simp⟩
def Bn (x y : Int) : Int := if x < y then -1 else if x > y then 1 else 0
theorem Ui (K : Nat) (x y : Int) : yO.m K x y = .ok (Bn x y) := by
  unfold yO.m jh.m Bn
  have h : ∀ z : Int, (z != z) = false := fun z => by simp
  simp only [h, qC, qN.bind_ok, cond_false, qq]
  split <;> (try rfl)
  split <;> rfl
theorem DI (K : Nat) (x y : PK) : xR.m K x y = .ok (Bn x.often_ y.often_) := by
  unfold xR.m; rw [Ui]; rfl
theorem Zi (x y : Int) : decide (Bn x y < (0 : Int)) = decide (x < y) := by
  unfold Bn
  by_cases h : x < y
  · rw [if_pos h]; simp [h]
  · rw [if_neg h]; split <;> simp [h]
theorem jL.last {A : List PK} {x : PK} (h : jL A) (hx : ∀ y, A.getLast? = some y → y.often_ ≤ x.often_) : ∀ y ∈ A, y.often_ ≤ x.often_ := by
  intro y hy
  rcases uI A with rfl | ⟨A', z, rfl⟩
  · cases hy
  · have hz := hx z (by simp)
    rcases List.mem_append.1 hy with h1 | h1
    · have := h.cross y h1 z (by simp); omega
    · simp at h1; subst h1; exact hz
theorem SS.ins {A1 A2 : List PK} {x : PK} (h : jL (A1 ++ A2)) (h1 : ∀ y ∈ A1, y.often_ ≤ x.often_) (h2 : ∀ y ∈ A2, x.often_ < y.often_) : SS (A1 ++ A2 ++ [x]) (A1 ++ x :: A2) := by
  refine ⟨?_, ?_, fun k => ?_⟩
  · refine jL.append h.left ?_ ?_
    · exact List.pairwise_cons.2 ⟨fun y hy => by have := h2 y hy; omega, h.right⟩
    · intro a ha y hy
      rcases List.mem_cons.1 hy with rfl | hy
      · exact h1 a ha
      · exact h.cross a ha y hy
  · rw [List.append_assoc]
    exact List.Perm.append_left _ (List.perm_append_comm (l₁ := [x]) (l₂ := A2))
  · have := Qp (X := A2) (Y := [x]) (fun a ha y hy => by simp at hy; subst hy; exact h2 a ha) k
    rw [List.append_assoc, List.filter_append, List.filter_append (l₁ := A1), this]
    rfl
theorem DU (K : Nat) (g : List PK → Int → qN (List PK)) (i : Nat) (P Q : List PK) (x : PK) (hi : i < 1099511627776) : ∀ (k : Nat) (A B : List PK), A.length < k → (P ++ A ++ x :: (B ++ Q)).length < 1099511627776 →
    ∃ A1 A2, A = A1 ++ A2 ∧ (∀ y ∈ A2, x.often_ < y.often_) ∧ (∀ y, A1.getLast? = some y → y.often_ ≤ x.often_) ∧
      qc.l2 K g (P.length : Int) (i : Int) k (P ++ A ++ x :: (B ++ Q)) ((P.length + A.length : Nat) : Int) = g (P ++ A1 ++ x :: (A2 ++ B ++ Q)) ((i + 1 : Nat) : Int) := by
  intro k
  induction k with
  | zero => intro A B h; omega
  | succ k ih =>
    intro A B h hl
    have hl' := hl
    simp only [List.length_append, List.length_cons] at hl'
    rcases uI A with rfl | ⟨A', y, rfl⟩
    · refine ⟨[], [], rfl, (fun y hy => by cases hy), (fun y hy => by cases hy), ?_⟩
      rw [qc.l2, qq, if_neg (by simp)]
      unfold qc.j3
      rw [cond_false, qC, show qg ((i : Int) + 1) = ((i + 1 : Nat) : Int) from by rw [qs (by omega) (by omega)]; rfl]
      simp
    · simp only [List.length_append, List.length_cons, List.length_nil] at h hl' ⊢
      have ej : (((P.length + (A'.length + (0 + 1)) : Nat)) : Int) = ((P ++ (A' ++ [y])).length : Int) := by simp
      have ej1 : qg (((P.length + (A'.length + (0 + 1)) : Nat) : Int) - 1) = ((P ++ A').length : Int) := by rw [qs (by omega) (by omega)]; simp only [List.length_append]; omega
      have d1 : P ++ (A' ++ [y]) ++ x :: (B ++ Q) = (P ++ A') ++ y :: (x :: (B ++ Q)) := by simp
      have r1 : rd (P ++ (A' ++ [y]) ++ x :: (B ++ Q)) (((P.length + (A'.length + (0 + 1)) : Nat)) : Int) = x := y9 _ _ _ ej
      have r2 : rd (P ++ (A' ++ [y]) ++ x :: (B ++ Q)) ((P ++ A').length : Int) = y := by rw [d1]; exact y9 _ _ _ rfl
      have b1 : inb (((P.length + (A'.length + (0 + 1)) : Nat)) : Int) (P ++ (A' ++ [y]) ++ x :: (B ++ Q)).length = true := y5 _ _ _ ej
      have b2 : inb ((P ++ A').length : Int) (P ++ (A' ++ [y]) ++ x :: (B ++ Q)).length = true := by rw [d1]; exact y5 _ _ _ rfl
      rw [qc.l2, qq, if_pos (by omega), b1, qf, ej1, b2, qf, r1, r2, ju, ju, DI, qN.bind_ok, Zi]
      unfold qc.j3
      rw [qq]
      by_cases hxy : x.often_ < y.often_
      · rw [if_pos hxy, ej1, b2, qf, b1, qf, r1, r2, ju, ju, qC]
        have s1 : (P ++ (A' ++ [y]) ++ x :: (B ++ Q)).set (Int.toNat (((P.length + (A'.length + (0 + 1)) : Nat)) : Int)) y = (P ++ A') ++ y :: (y :: (B ++ Q)) := by rw [uw _ _ _ _ ej]; simp
        rw [s1, y5 _ _ _ rfl, qf, uw _ _ _ _ rfl, qC, qC]
        obtain ⟨A1, A2, h1, h2, h3, h4⟩ := ih A' (y :: B) (by omega) (by simp only [List.length_append, List.length_cons]; omega)
        refine ⟨A1, A2 ++ [y], by rw [h1]; simp, fun z hz => ?_, h3, ?_⟩
        · rcases List.mem_append.1 hz with hz | hz
          · exact h2 z hz
          · simp at hz; subst hz; exact hxy
        · have : ((P ++ A').length : Int) = ((P.length + A'.length : Nat) : Int) := by simp
          rw [this]
          refine h4.trans ?_
          simp
      · refine ⟨A' ++ [y], [], by simp, fun z hz => (by cases hz), fun z hz => ?_, ?_⟩
        · simp at hz; subst hz; omega
        · rw [if_neg hxy, qC, show qg ((i : Int) + 1) = ((i + 1 : Nat) : Int) from by rw [qs (by omega) (by omega)]; rfl]
          simp
theorem SS.snoc {S0 S S' : List PK} {x : PK} (h : SS S0 S) (h' : SS (S ++ [x]) S') : SS (S0 ++ [x]) S' :=
  ⟨h'.1, h'.2.1.trans (h.2.1.append_right _), fun k => by rw [h'.2.2 k, List.filter_append, h.2.2 k, ← List.filter_append]⟩
theorem U5 (K : Nat) (P Q : List PK) (hK : (1099511627776 : Nat) > K) : ∀ (T S0 S : List PK) (k : Nat), SS S0 S → 0 < S.length → T.length < k → (P ++ S ++ T ++ Q).length < K →
    ∃ S', SS (S0 ++ T) S' ∧ qc.l1 K (P.length : Int) ((P.length + S.length + T.length : Nat) : Int) k (P ++ S ++ T ++ Q) ((P.length + S.length : Nat) : Int) = .ok (P ++ S' ++ Q)
  | [], S0, S, k, hs, h0, hk, hl => by
    obtain ⟨k, rfl⟩ : ∃ m, k = m + 1 := ⟨k - 1, by simp at hk; omega⟩
    refine ⟨S, by simpa using hs, ?_⟩
    rw [qc.l1, qq, if_neg (by simp)]
    simp
  | x :: T, S0, S, k, hs, h0, hk, hl => by
    obtain ⟨k, rfl⟩ : ∃ m, k = m + 1 := ⟨k - 1, by simp at hk; omega⟩
    simp only [List.length_cons, List.length_append] at hk hl
    rw [qc.l1, qq, if_pos (by simp only [List.length_cons]; omega)]
    obtain ⟨A1, A2, h1, h2, h3, h4⟩ := DU K (qc.l1 K (P.length : Int) ((P.length + S.length + (x :: T).length : Nat) : Int) k) (P.length + S.length) P (T ++ Q) x (by omega) K S []
      (by omega) (by simp only [List.length_append, List.length_cons, List.length_nil]; omega)
    simp only [List.nil_append, List.append_nil] at h4
    rw [show P ++ S ++ x :: T ++ Q = P ++ S ++ x :: (T ++ Q) from by simp, h4]
    subst h1
    have hss := SS.ins hs.1 (hs.1.left.last h3) h2
    simp only [List.length_append] at hl
    obtain ⟨S', g1, g2⟩ := U5 K P Q hK T (S0 ++ [x]) (A1 ++ x :: A2) k (hs.snoc hss) (by simp only [List.length_append, List.length_cons]; omega) (by omega) (by simp only [List.length_append, List.length_cons]; omega)
    refine ⟨S', by simpa using g1, ?_⟩
    rw [← g2]
    simp only [List.length_append, List.length_cons, List.append_assoc, List.cons_append]
    congr 2 <;> (simp only [Nat.add_assoc]; congr 1 <;> omega)
theorem YZ (K : Nat) (P S Q : List PK) (hK : (1099511627776 : Nat) > K) (hl : (P ++ S ++ Q).length + 1 < K) {a b : Int} (ha : a = (P.length : Int)) (hb : b = ((P.length + S.length : Nat) : Int)) :
    ∃ S', SS S S' ∧ qc.m K (P ++ S ++ Q) a b = .ok (P ++ S' ++ Q) := by
  subst ha; subst hb
  unfold qc.m
  have hl' := hl
  simp only [List.length_append] at hl'
  rw [qC, show qg ((P.length : Int) + 1) = ((P.length + 1 : Nat) : Int) from by rw [qs (by omega) (by omega)]; rfl]
  cases S with
  | nil =>
    refine ⟨[], ⟨List.Pairwise.nil, List.Perm.refl _, fun _ => rfl⟩, ?_⟩
    obtain ⟨k, rfl⟩ : ∃ m, K = m + 1 := ⟨K - 1, by omega⟩
    rw [qc.l1, qq, if_neg (by simp only [List.length_nil]; omega)]
  | cons x S =>
    simp only [List.length_cons] at hl'
    obtain ⟨S', h1, h2⟩ := U5 K P Q hK S [x] [x] K (SS.refl (List.pairwise_singleton _ _)) (by simp) (by omega) (by simp only [List.length_append, List.length_cons, List.length_nil]; omega)
    refine ⟨S', by simpa using h1, ?_⟩
    rw [← h2]
    simp only [List.length_cons, List.length_nil, List.append_assoc, List.cons_append, List.nil_append]
    congr 2
    omega
end Go.Pu

set_option maxRecDepth 100000
namespace Go.Pu
open Go Go.Sl Go.Mo
theorem U2 {i j : Nat} (h : i + j < 1099511627776) : wr .i64 (xb .u64 (wr .u64 (qg ((i : Int) + (j : Int)))) 1) = (((i + j) / 2 : Nat) : Int) := by
  rw [show qg ((i : Int) + (j : Int)) = ((i + j : Nat) : Int) from by rw [qs (by omega) (by omega)]; rfl, ze (by omega) (by omega)]
  have := yt (k := .u64) (a := i + j) (n := 1) (by decide)
  rw [show ((1 : Nat) : Int) = 1 from rfl] at this
  rw [this, zg (by omega) (by omega)]
theorem ZZ {α : Type} [Inhabited α] (X Y : List α) (t : Nat) : rd (X ++ Y) ((X.length + t : Nat) : Int) = rd Y (t : Int) := by
  simp only [rd, Int.toNat_natCast, List.getD]
  rw [List.getElem?_append_right (by omega), Nat.add_sub_cancel_left]
theorem jH {α : Type} [Inhabited α] (X Y : List α) {t : Nat} (h : t < X.length) : rd (X ++ Y) (t : Int) = rd X (t : Int) := by
  simp only [rd, Int.toNat_natCast, List.getD]
  rw [List.getElem?_append_left h]
theorem jZ {α : Type} [Inhabited α] {X : List α} {x : α} (h : x ∈ X) : ∃ i, i < X.length ∧ x = rd X (i : Int) := by
  obtain ⟨i, hi, rfl⟩ := List.getElem_of_mem h
  exact ⟨i, hi, by simp [rd, List.getD, hi]⟩
theorem JY {α : Type} [Inhabited α] {X : List α} {n t : Nat} (h : t < n) : rd (X.take n) (t : Int) = rd X (t : Int) := by
  simp only [rd, Int.toNat_natCast, List.getD, List.getElem?_take, if_pos h]
theorem JX {α : Type} [Inhabited α] {X : List α} {n t : Nat} : rd (X.drop n) (t : Int) = rd X ((n + t : Nat) : Int) := by
  simp only [rd, Int.toNat_natCast, List.getD, List.getElem?_drop]
theorem jL.rd {X : List PK} (h : jL X) {i j : Nat} (hij : i ≤ j) (hj : j < X.length) : (Sl.rd X (i : Int)).often_ ≤ (Sl.rd X (j : Int)).often_ := by
  by_cases he : i = j
  · subst he; exact Int.le_refl _
  · have := List.pairwise_iff_getElem.1 h i j (by omega) hj (by omega)
    have h1 : i < X.length := by omega
    simp only [Sl.rd, Int.toNat_natCast, List.getD, List.getElem?_eq_getElem h1, List.getElem?_eq_getElem hj]
    exact this
theorem YI {i n : Nat} (h : i < n) : inb (i : Int) n = true := by simp only [inb, decide_eq_true_eq]; omega
theorem GZ (K : Nat) (rc : List PK → Int → Int → Int → qN (List PK)) (P B Q : List PK) (x : PK) (hB : jL B) (hl : (P ++ [x] ++ B ++ Q).length < 549755813888) : ∀ (k i j : Nat), i ≤ j → j ≤ B.length → j - i < k →
    (∀ t, t < i → (rd B (t : Int)).often_ < x.often_) → (∀ t, j ≤ t → t < B.length → x.often_ ≤ (rd B (t : Int)).often_) →
    ∃ q, q ≤ B.length ∧ (∀ t, t < q → (rd B (t : Int)).often_ < x.often_) ∧ (∀ t, q ≤ t → t < B.length → x.often_ ≤ (rd B (t : Int)).often_) ∧
      qa.l1 K rc (P ++ [x] ++ B ++ Q) (P.length : Int) k ((P.length + 1 + i : Nat) : Int) ((P.length + 1 + j : Nat) : Int) =
        qa.j2 K rc (P ++ [x] ++ B ++ Q) (P.length : Int) ((P.length + 1 + q : Nat) : Int) := by
  intro k
  induction k with
  | zero => intro i j h1 h2 h3; omega
  | succ k ih =>
    intro i j h1 h2 h3 hlo hhi
    have hl' := hl
    simp only [List.length_append, List.length_cons, List.length_nil] at hl'
    rw [qa.l1, qq]
    by_cases hij : i < j
    · rw [if_pos (by omega), U2 (by omega), qC]
      obtain ⟨h, hh⟩ : ∃ h, (P.length + 1 + i + (P.length + 1 + j)) / 2 = P.length + 1 + h := ⟨(P.length + 1 + i + (P.length + 1 + j)) / 2 - (P.length + 1), by omega⟩
      have hi1 : i ≤ h := by omega
      have hi2 : h < j := by omega
      have r1 : rd (P ++ [x] ++ B ++ Q) ((P.length + 1 + h : Nat) : Int) = rd B (h : Int) := by
        have := ZZ (P ++ [x]) (B ++ Q) h
        rw [jH B Q (by omega)] at this
        simpa using this
      have r2 : rd (P ++ [x] ++ B ++ Q) (P.length : Int) = x := by
        rw [show P ++ [x] ++ B ++ Q = P ++ x :: (B ++ Q) from by simp]; exact y9 _ _ _ rfl
      rw [hh, YI (by simp only [List.length_append, List.length_cons, List.length_nil]; omega), qf, YI (by simp only [List.length_append, List.length_cons, List.length_nil]; omega), qf, r1, r2, ju, ju, DI, qN.bind_ok, Zi, qq]
      by_cases hc : (rd B (h : Int)).often_ < x.often_
      · rw [if_pos hc, qC, show qg (((P.length + 1 + h : Nat) : Int) + 1) = ((P.length + 1 + (h + 1) : Nat) : Int) from by rw [qs (by omega) (by omega)]; omega]
        exact ih (h + 1) j (by omega) h2 (by omega) (fun t ht => by have := hB.rd (i := t) (j := h) (by omega) (by omega); omega) hhi
      · rw [if_neg hc]
        exact ih i h hi1 (by omega) (by omega) hlo (fun t ht htl => by have := hB.rd (i := h) (j := t) ht htl; omega)
    · rw [if_neg (by omega)]
      have : i = j := by omega
      subst this
      exact ⟨i, h2, hlo, hhi, rfl⟩
theorem GK (K : Nat) (rc : List PK → Int → Int → Int → qN (List PK)) (x : PK) : ∀ (D P Q : List PK) (k : Nat), D.length < k → (P ++ x :: (D ++ Q)).length < 549755813888 → ∀ i : Int, i = ((P.length + 1 + D.length : Nat) : Int) →
    qa.l3 K rc i k (P ++ x :: (D ++ Q)) (P.length : Int) = .ok (P ++ D ++ x :: Q)
  | [], P, Q, k, hk, hl, i, hi => by
    obtain ⟨k, rfl⟩ : ∃ m, k = m + 1 := ⟨k - 1, by simp at hk; omega⟩
    simp only [List.length_append, List.length_cons, List.length_nil] at hl hi
    subst hi
    rw [qa.l3, qq, if_neg (by rw [qs (by omega) (by omega)]; omega)]
    simp
  | y :: D, P, Q, k, hk, hl, i, hi => by
    obtain ⟨k, rfl⟩ : ∃ m, k = m + 1 := ⟨k - 1, by simp at hk; omega⟩
    simp only [List.length_append, List.length_cons] at hl hi hk
    have ih := GK K rc x D (P ++ [y]) Q k (by omega) (by simp only [List.length_append, List.length_cons, List.length_nil]; omega) i (by rw [hi]; simp only [List.length_append, List.length_cons, List.length_nil]; omega)
    subst hi
    have e1 : qg ((P.length : Int) + 1) = ((P ++ [x]).length : Int) := by rw [qs (by omega) (by omega)]; simp
    have d1 : P ++ x :: (y :: D ++ Q) = (P ++ [x]) ++ y :: (D ++ Q) := by simp
    have r1 : rd (P ++ x :: (y :: D ++ Q)) ((P ++ [x]).length : Int) = y := by rw [d1]; exact y9 _ _ _ rfl
    have r2 : rd (P ++ x :: (y :: D ++ Q)) (P.length : Int) = x := y9 _ _ _ rfl
    have b1 : inb ((P ++ [x]).length : Int) (P ++ x :: (y :: D ++ Q)).length = true := by rw [d1]; exact y5 _ _ _ rfl
    rw [qa.l3, qq, if_pos (by rw [qs (by omega) (by omega)]; omega), e1, b1, qf, y5 _ _ _ rfl, qf, r1, r2, ju, ju, uw _ _ _ _ rfl, qC]
    have d2 : P ++ y :: (y :: D ++ Q) = (P ++ [y]) ++ y :: (D ++ Q) := by simp
    have e2 : ((P ++ [x]).length : Int) = ((P ++ [y]).length : Int) := by simp
    rw [d2, e2, y5 _ _ _ rfl, qf, uw _ _ _ _ rfl, qC, qC, ih]
    simp
theorem GY (K : Nat) (rc : List PK → Int → Int → Int → qN (List PK)) (P A Q : List PK) (x : PK) (hA : jL A) (hl : (P ++ A ++ x :: Q).length < 549755813888) : ∀ (k i j : Nat), i ≤ j → j ≤ A.length → j - i < k →
    (∀ t, t < i → (rd A (t : Int)).often_ ≤ x.often_) → (∀ t, j ≤ t → t < A.length → x.often_ < (rd A (t : Int)).often_) →
    ∃ q, q ≤ A.length ∧ (∀ t, t < q → (rd A (t : Int)).often_ ≤ x.often_) ∧ (∀ t, q ≤ t → t < A.length → x.often_ < (rd A (t : Int)).often_) ∧
      qa.l5 K rc (P ++ A ++ x :: Q) ((P.length + A.length : Nat) : Int) k ((P.length + i : Nat) : Int) ((P.length + j : Nat) : Int) =
        qa.j6 K rc (P ++ A ++ x :: Q) ((P.length + A.length : Nat) : Int) ((P.length + q : Nat) : Int) := by
  intro k
  induction k with
  | zero => intro i j h1 h2 h3; omega
  | succ k ih =>
    intro i j h1 h2 h3 hlo hhi
    have hl' := hl
    simp only [List.length_append, List.length_cons] at hl'
    rw [qa.l5, qq]
    by_cases hij : i < j
    · rw [if_pos (by omega), U2 (by omega), qC]
      obtain ⟨h, hh⟩ : ∃ h, (P.length + i + (P.length + j)) / 2 = P.length + h := ⟨(P.length + i + (P.length + j)) / 2 - P.length, by omega⟩
      have hi1 : i ≤ h := by omega
      have hi2 : h < j := by omega
      have r1 : rd (P ++ A ++ x :: Q) ((P.length + h : Nat) : Int) = rd A (h : Int) := by
        have := ZZ P (A ++ x :: Q) h
        rw [jH A (x :: Q) (by omega)] at this
        simpa using this
      have r2 : rd (P ++ A ++ x :: Q) ((P.length + A.length : Nat) : Int) = x := y9 _ _ _ (by simp)
      rw [hh, YI (by simp only [List.length_append, List.length_cons]; omega), qf, YI (by simp only [List.length_append, List.length_cons]; omega), qf, r1, r2, ju, ju, DI, qN.bind_ok, Zi, zp, qq]
      by_cases hc : x.often_ < (rd A (h : Int)).often_
      · rw [if_pos hc]
        exact ih i h hi1 (by omega) (by omega) hlo (fun t ht htl => by have := hA.rd (i := h) (j := t) ht htl; omega)
      · rw [if_neg hc, qC, show qg (((P.length + h : Nat) : Int) + 1) = ((P.length + (h + 1) : Nat) : Int) from by rw [qs (by omega) (by omega)]; omega]
        exact ih (h + 1) j (by omega) h2 (by omega) (fun t ht => by have := hA.rd (i := t) (j := h) (by omega) (by omega); omega) hhi
    · rw [if_neg (by omega)]
      have : i = j := by omega
      subst this
      exact ⟨i, h2, hlo, hhi, rfl⟩
theorem LV (K : Nat) (rc : List PK → Int → Int → Int → qN (List PK)) (x : PK) (P : List PK) : ∀ (k : Nat) (D Q : List PK), D.length < k → (P ++ D ++ x :: Q).length < 549755813888 →
    qa.l7 K rc (P.length : Int) k (P ++ D ++ x :: Q) ((P.length + D.length : Nat) : Int) = .ok (P ++ x :: (D ++ Q)) := by
  intro k
  induction k with
  | zero => intro D Q h; omega
  | succ k ih =>
    intro D Q hk hl
    simp only [List.length_append, List.length_cons] at hl
    rcases uI D with rfl | ⟨D', y, rfl⟩
    · rw [qa.l7, qq, if_neg (by simp)]; simp
    · simp only [List.length_append, List.length_cons, List.length_nil] at hl hk ⊢
      have ej : (((P.length + (D'.length + (0 + 1)) : Nat)) : Int) = ((P ++ (D' ++ [y])).length : Int) := by simp
      have ej1 : qg (((P.length + (D'.length + (0 + 1)) : Nat) : Int) - 1) = ((P ++ D').length : Int) := by rw [qs (by omega) (by omega)]; simp only [List.length_append]; omega
      have d1 : P ++ (D' ++ [y]) ++ x :: Q = (P ++ D') ++ y :: (x :: Q) := by simp
      have r1 : rd (P ++ (D' ++ [y]) ++ x :: Q) (((P.length + (D'.length + (0 + 1)) : Nat)) : Int) = x := y9 _ _ _ ej
      have r2 : rd (P ++ (D' ++ [y]) ++ x :: Q) ((P ++ D').length : Int) = y := by rw [d1]; exact y9 _ _ _ rfl
      have b1 : inb (((P.length + (D'.length + (0 + 1)) : Nat)) : Int) (P ++ (D' ++ [y]) ++ x :: Q).length = true := y5 _ _ _ ej
      have b2 : inb ((P ++ D').length : Int) (P ++ (D' ++ [y]) ++ x :: Q).length = true := by rw [d1]; exact y5 _ _ _ rfl
      have s1 : (P ++ (D' ++ [y]) ++ x :: Q).set (Int.toNat (((P.length + (D'.length + (0 + 1)) : Nat)) : Int)) y = (P ++ D') ++ y :: (y :: Q) := by rw [uw _ _ _ _ ej]; simp
      rw [qa.l7, qq, if_pos (by omega), ej1, b2, qf, b1, qf, r1, r2, ju, ju, s1, qC, y5 _ _ _ rfl, qf, uw _ _ _ _ rfl, qC, qC]
      have := ih D' (y :: Q) (by omega) (by simp only [List.length_append, List.length_cons]; omega)
      rw [show ((P ++ D').length : Int) = ((P.length + D'.length : Nat) : Int) from by simp, this]
      simp
theorem L1 (K : Nat) (rc : List PK → Int → Int → Int → qN (List PK)) (P B Q : List PK) (x : PK) (hB : jL B) (hl : (P ++ [x] ++ B ++ Q).length < 549755813888) (hK : B.length < K) :
    ∃ M, SS ([x] ++ B) M ∧ qa.l1 K rc (P ++ [x] ++ B ++ Q) (P.length : Int) K ((P.length + 1 : Nat) : Int) ((P.length + 1 + B.length : Nat) : Int) = .ok (P ++ M ++ Q) := by
  obtain ⟨q, h1, h2, h3, h4⟩ := GZ K rc P B Q x hB hl K 0 B.length (by omega) (by omega) (by omega) (fun t ht => by omega) (fun t ht htl => by omega)
  have hq : (B.take q).length = q := by rw [List.length_take]; omega
  refine ⟨B.take q ++ x :: B.drop q, ⟨?_, ?_, fun k => ?_⟩, ?_⟩
  · refine jL.append (A := B.take q) (hB.sublist (List.take_sublist ..)) (List.pairwise_cons.2 ⟨fun y hy => ?_, hB.sublist (List.drop_sublist ..)⟩) fun a ha y hy => ?_
    · obtain ⟨i, hi, rfl⟩ := jZ hy
      rw [List.length_drop] at hi
      rw [JX]; exact h3 _ (by omega) (by omega)
    · obtain ⟨i, hi, rfl⟩ := jZ ha
      rw [hq] at hi
      rw [JY hi]
      have hax := h2 i hi
      rcases List.mem_cons.1 hy with rfl | hy
      · omega
      · obtain ⟨j, hj, rfl⟩ := jZ hy
        rw [List.length_drop] at hj
        rw [JX]; exact hB.rd (by omega) (by omega)
  · refine List.Perm.trans ?_ (List.Perm.of_eq (by simp : [x] ++ (B.take q ++ B.drop q) = [x] ++ B))
    rw [← List.append_assoc, show B.take q ++ x :: B.drop q = (B.take q ++ [x]) ++ B.drop q from by simp]
    exact List.Perm.append_right _ List.perm_append_comm
  · have := Qp (X := [x]) (Y := B.take q) (fun a ha y hy => by
      simp at ha; subst ha
      obtain ⟨i, hi, rfl⟩ := jZ hy
      rw [hq] at hi
      rw [JY hi]; exact h2 i hi) k
    rw [show B.take q ++ x :: B.drop q = (B.take q ++ [x]) ++ B.drop q from by simp, List.filter_append, ← this, ← List.filter_append, List.append_assoc, List.take_append_drop]
  · rw [show ((P.length + 1 + 0 : Nat) : Int) = ((P.length + 1 : Nat) : Int) from rfl] at h4
    rw [h4]
    unfold qa.j2
    have hl' := hl
    simp only [List.length_append, List.length_cons, List.length_nil] at hl'
    have := GK K rc x (B.take q) P (B.drop q ++ Q) K (by omega) (by simp only [List.length_append, List.length_cons, List.length_drop]; omega) ((P.length + 1 + q : Nat) : Int) (by rw [hq])
    rw [show P ++ x :: (B.take q ++ (B.drop q ++ Q)) = P ++ [x] ++ B ++ Q from by rw [← List.append_assoc (B.take q), List.take_append_drop]; simp] at this
    rw [this]
    simp
theorem L0 (K : Nat) (rc : List PK → Int → Int → Int → qN (List PK)) (P A Q : List PK) (x : PK) (hA : jL A) (hl : (P ++ A ++ x :: Q).length < 549755813888) (hK : A.length < K) :
    ∃ M, SS (A ++ [x]) M ∧ qa.l5 K rc (P ++ A ++ x :: Q) ((P.length + A.length : Nat) : Int) K (P.length : Int) ((P.length + A.length : Nat) : Int) = .ok (P ++ M ++ Q) := by
  obtain ⟨q, h1, h2, h3, h4⟩ := GY K rc P A Q x hA hl K 0 A.length (by omega) (by omega) (by omega) (fun t ht => by omega) (fun t ht htl => by omega)
  have hq : (A.take q).length = q := by rw [List.length_take]; omega
  refine ⟨A.take q ++ x :: A.drop q, ?_, ?_⟩
  · have := SS.ins (A1 := A.take q) (A2 := A.drop q) (x := x) (by rw [List.take_append_drop]; exact hA) (fun y hy => by
      obtain ⟨i, hi, rfl⟩ := jZ hy
      rw [hq] at hi
      rw [JY hi]; exact h2 i hi) (fun y hy => by
      obtain ⟨i, hi, rfl⟩ := jZ hy
      rw [List.length_drop] at hi
      rw [JX]; exact h3 _ (by omega) (by omega))
    rwa [List.take_append_drop] at this
  · rw [show ((P.length + 0 : Nat) : Int) = (P.length : Int) from rfl] at h4
    rw [h4]
    unfold qa.j6
    have hl' := hl
    simp only [List.length_append, List.length_cons] at hl'
    have := LV K rc x (P ++ A.take q) K (A.drop q) Q (by rw [List.length_drop]; omega) (by simp only [List.length_append, List.length_cons, List.length_drop, hq]; omega)
    rw [show P ++ A.take q ++ A.drop q ++ x :: Q = P ++ A ++ x :: Q from by rw [List.append_assoc P, List.take_append_drop], show ((P ++ A.take q).length + (A.drop q).length : Nat) = P.length + A.length from by simp only [List.length_append, List.length_drop, hq]; omega,
      show ((P ++ A.take q).length : Int) = ((P.length + q : Nat) : Int) from by simp only [List.length_append, hq]] at this
    rw [this]
    simp
end Go.Pu

set_option maxRecDepth 100000
namespace Go.Pu
open Go Go.Sl Go.Mo
theorem SS.join {A1 A2 B1 B2 M1 M2 : List PK} (h1 : SS (A1 ++ B1) M1) (h2 : SS (A2 ++ B2) M2) (hA : jL (A1 ++ A2)) (hB : jL (B1 ++ B2)) (h12 : ∀ x ∈ A1, ∀ y ∈ B2, x.often_ ≤ y.often_) (h21 : ∀ x ∈ B1, ∀ y ∈ A2, x.often_ < y.often_) :
    SS ((A1 ++ A2) ++ (B1 ++ B2)) (M1 ++ M2) := by
  refine ⟨jL.append h1.1 h2.1 fun x hx y hy => ?_, ?_, fun k => ?_⟩
  · have hx' := h1.2.1.mem_iff.1 hx
    have hy' := h2.2.1.mem_iff.1 hy
    rcases List.mem_append.1 hx' with hx' | hx' <;> rcases List.mem_append.1 hy' with hy' | hy'
    · exact hA.cross x hx' y hy'
    · exact h12 x hx' y hy'
    · exact Int.le_of_lt (h21 x hx' y hy')
    · exact hB.cross x hx' y hy'
  · refine (h1.2.1.append h2.2.1).trans ?_
    simp only [List.append_assoc]
    refine List.Perm.append_left _ ?_
    rw [← List.append_assoc, ← List.append_assoc]
    exact List.Perm.append_right _ List.perm_append_comm
  · have := Qp (X := A2) (Y := B1) (fun x hx y hy => h21 y hy x hx) k
    simp only [List.filter_append] at this
    simp only [List.filter_append, h1.2.2 k, h2.2.2 k]
    rw [List.append_assoc, List.append_assoc, ← List.append_assoc (List.filter _ B1), ← this]
    simp only [List.append_assoc]
section
variable (K : Nat) (rc : List PK → Int → Int → Int → qN (List PK)) (P A B Q : List PK)
theorem LH (hA : jL A) (hB : jL B) (hl : (P ++ A ++ B ++ Q).length < 274877906944) (mid : Nat) (hmid : 2 * mid ≤ 2 * P.length + A.length + B.length) (hmid2 : P.length ≤ mid) {md n_ p_ a_ m_ b_ : Int} (hn : n_ = ((mid + (P.length + A.length) : Nat) : Int)) (hp : p_ = ((mid + (P.length + A.length) : Nat) : Int) - 1) :
    ∀ (k s r : Nat), s ≤ r → r ≤ A.length → P.length + r ≤ mid → mid ≤ P.length + s + B.length → r - s < k → (∀ t, t < s → t < A.length → ∀ j, mid - P.length - s ≤ j → j < B.length → (rd A (t : Int)).often_ ≤ (rd B (j : Int)).often_) →
    (∀ t, r ≤ t → t < A.length → ∀ j, j < mid - P.length - r → (rd B (j : Int)).often_ < (rd A (t : Int)).often_) →
    ∃ q, s ≤ q ∧ q ≤ r ∧ (∀ t, t < q → t < A.length → ∀ j, mid - P.length - q ≤ j → j < B.length → (rd A (t : Int)).often_ ≤ (rd B (j : Int)).often_) ∧
      (∀ t, q ≤ t → t < A.length → ∀ j, j < mid - P.length - q → (rd B (j : Int)).often_ < (rd A (t : Int)).often_) ∧
      qa.l10 K rc (P ++ A ++ B ++ Q) a_ m_ b_ md n_ p_ k ((P.length + s : Nat) : Int) ((P.length + r : Nat) : Int) =
        qa.j11 K rc (P ++ A ++ B ++ Q) a_ m_ b_ md n_ ((P.length + q : Nat) : Int) := by
  intro k
  induction k with
  | zero => intro s r h1 h2 h3 h4 h5; omega
  | succ k ih =>
    intro s r h1 h2 h3 h4 h5 hlo hhi
    have hl' := hl
    simp only [List.length_append] at hl'
    rw [qa.l10, qq]
    by_cases hsr : s < r
    · rw [if_pos (by omega), U2 (by omega), qC]
      obtain ⟨c, hc⟩ : ∃ c, (P.length + s + (P.length + r)) / 2 = P.length + c := ⟨(P.length + s + (P.length + r)) / 2 - P.length, by omega⟩
      have hc1 : s ≤ c := by omega
      have hc2 : c < r := by omega
      -- the place in B
      obtain ⟨j, hj⟩ : ∃ j, mid - P.length - 1 - c = j := ⟨_, rfl⟩
      have hjl : j < B.length := by omega
      have e1 : qg (p_ - ((P.length + c : Nat) : Int)) = ((P.length + A.length + j : Nat) : Int) := by subst hp; rw [qs (by omega) (by omega)]; omega
      have r1 : rd (P ++ A ++ B ++ Q) ((P.length + A.length + j : Nat) : Int) = rd B (j : Int) := by
        have := ZZ (P ++ A) (B ++ Q) j
        rw [jH B Q hjl] at this
        simpa using this
      have r2 : rd (P ++ A ++ B ++ Q) ((P.length + c : Nat) : Int) = rd A (c : Int) := by
        have := ZZ P (A ++ (B ++ Q)) c
        rw [jH A (B ++ Q) (by omega)] at this
        simpa using this
      rw [hc, e1, YI (by simp only [List.length_append]; omega), qf, YI (by simp only [List.length_append]; omega), qf, r1, r2, ju, ju, DI, qN.bind_ok, Zi, zp, qq]
      by_cases hlt : (rd B (j : Int)).often_ < (rd A (c : Int)).often_
      · rw [if_pos hlt]
        obtain ⟨q, q1, q2, q3⟩ := ih s c hc1 (by omega) (by omega) h4 (by omega) hlo (fun t ht htl i hi => by
          have g1 := hA.rd (i := c) (j := t) ht htl
          have g2 := hB.rd (i := i) (j := j) (by omega) hjl
          omega)
        exact ⟨q, q1, by omega, q3⟩
      · rw [if_neg hlt, qC, show qg (((P.length + c : Nat) : Int) + 1) = ((P.length + (c + 1) : Nat) : Int) from by rw [qs (by omega) (by omega)]; omega]
        obtain ⟨q, q1, q2, q3⟩ := ih (c + 1) r (by omega) h2 h3 (by omega) (by omega) (fun t ht htl i hi hil => by
          have g1 := hA.rd (i := t) (j := c) (by omega) (by omega)
          have g2 := hB.rd (i := j) (j := i) (by omega) hil
          omega) hhi
        exact ⟨q, by omega, q2, q3⟩
    · rw [if_neg (by omega)]
      have : s = r := by omega
      subst this
      exact ⟨s, Nat.le_refl _, Nat.le_refl _, hlo, hhi, rfl⟩
end
theorem Du (K : Nat) : ∀ (d : Nat) (P A B Q : List PK), jL A → jL B → 0 < A.length → 0 < B.length → A.length + B.length ≤ d → (P ++ A ++ B ++ Q).length < 274877906944 → (P ++ A ++ B ++ Q).length < K →
    ∃ M, SS (A ++ B) M ∧ qa.r K d (P ++ A ++ B ++ Q) (P.length : Int) ((P.length + A.length : Nat) : Int) ((P.length + A.length + B.length : Nat) : Int) = .ok (P ++ M ++ Q) := by
  intro d
  induction d with
  | zero => intro P A B Q _ _ h0 h1 h; omega
  | succ d ih =>
    intro P A B Q hA hB hA0 hB0 hd hl hK
    have hl' := hl; have hK' := hK
    simp only [List.length_append] at hl' hK'
    rw [qa.r, qa.b, qY, qs (by omega) (by omega)]
    by_cases hA1 : A.length = 1
    · rw [if_pos (by omega)]
      obtain ⟨x, rfl⟩ := List.length_eq_one_iff.1 hA1
      exact L1 K _ P B Q x hB (by omega) (by omega)
    rw [if_neg (by omega)]
    unfold qa.j4
    rw [qY, qs (by omega) (by omega)]
    by_cases hB1 : B.length = 1
    · rw [if_pos (by omega)]
      obtain ⟨x, rfl⟩ := List.length_eq_one_iff.1 hB1
      have := L0 K (qa.r K d) P A Q x hA (by simp only [List.length_append, List.length_cons] at hl ⊢; simp only [List.length_nil] at hl; omega) (by omega)
      simpa using this
    rw [if_neg (by omega)]
    unfold qa.j8
    obtain ⟨mid, hmid⟩ : ∃ mid, (P.length + (P.length + A.length + B.length)) / 2 = mid := ⟨_, rfl⟩
    rw [U2 (by omega), hmid, qC, show qg ((mid : Int) + ((P.length + A.length : Nat) : Int)) = ((mid + (P.length + A.length) : Nat) : Int) from by rw [qs (by omega) (by omega)]; omega, qC, qq]
    -- the two ways to begin
    have key : ∃ s0 r0, s0 ≤ r0 ∧ r0 ≤ A.length ∧ P.length + r0 ≤ mid ∧ mid ≤ P.length + s0 + B.length ∧ (s0 = 0 ∨ mid = P.length + s0 + B.length) ∧ (r0 = A.length ∨ P.length + r0 = mid) ∧
        (if ((P.length + A.length : Nat) : Int) > (mid : Int) then lt (qg (((mid + (P.length + A.length) : Nat) : Int) - ((P.length + A.length + B.length : Nat) : Int))) fun start5172 => qa.j9 K (qa.r K d) (P ++ A ++ B ++ Q) (P.length : Int) ((P.length + A.length : Nat) : Int) ((P.length + A.length + B.length : Nat) : Int) (mid : Int) ((mid + (P.length + A.length) : Nat) : Int) start5172 (mid : Int)
          else qa.j9 K (qa.r K d) (P ++ A ++ B ++ Q) (P.length : Int) ((P.length + A.length : Nat) : Int) ((P.length + A.length + B.length : Nat) : Int) (mid : Int) ((mid + (P.length + A.length) : Nat) : Int) (P.length : Int) ((P.length + A.length : Nat) : Int)) =
        qa.j9 K (qa.r K d) (P ++ A ++ B ++ Q) (P.length : Int) ((P.length + A.length : Nat) : Int) ((P.length + A.length + B.length : Nat) : Int) (mid : Int) ((mid + (P.length + A.length) : Nat) : Int) ((P.length + s0 : Nat) : Int) ((P.length + r0 : Nat) : Int) := by
      by_cases hm : ((P.length + A.length : Nat) : Int) > (mid : Int)
      · refine ⟨mid - P.length - B.length, mid - P.length, by omega, by omega, by omega, by omega, by omega, by omega, ?_⟩
        rw [if_pos hm, qC]
        congr 1
        · rw [qs (by omega) (by omega)]; omega
        · omega
      · refine ⟨0, A.length, by omega, by omega, by omega, by omega, by omega, by omega, ?_⟩
        rw [if_neg hm]
        rfl
    obtain ⟨s0, r0, g1, g2, g3, g4, g5, g6, g7⟩ := key
    rw [g7]
    unfold qa.j9
    rw [qC]
    obtain ⟨q, q1, q2, q3, q4, q5⟩ := LH K (qa.r K d) P A B Q hA hB hl mid (by omega) (by omega) (md := (mid : Int)) (n_ := ((mid + (P.length + A.length) : Nat) : Int)) (p_ := qg (((mid + (P.length + A.length) : Nat) : Int) - 1)) (a_ := (P.length : Int))
      (m_ := ((P.length + A.length : Nat) : Int)) (b_ := ((P.length + A.length + B.length : Nat) : Int)) rfl (qs (by omega) (by omega)) K s0 r0 g1 g2 g3 g4 (by omega) (fun t ht htl j hj hjl => by omega) (fun t ht htl j hj => by omega)
    rw [q5]
    -- the four parts
    obtain ⟨A1, A2, rfl, hA1l⟩ : ∃ A1 A2, A = A1 ++ A2 ∧ A1.length = q := ⟨A.take q, A.drop q, by simp, by rw [List.length_take]; omega⟩
    obtain ⟨B1, B2, rfl, hB1l⟩ : ∃ B1 B2, B = B1 ++ B2 ∧ B1.length = mid - P.length - q := ⟨B.take (mid - P.length - q), B.drop (mid - P.length - q), by simp, by rw [List.length_take]; omega⟩
    have h12 : ∀ x ∈ A1, ∀ y ∈ B2, x.often_ ≤ y.often_ := by
      intro x hx y hy
      obtain ⟨i, hi, rfl⟩ := jZ hx
      obtain ⟨j, hj, rfl⟩ := jZ hy
      have := q3 i (by omega) (by simp only [List.length_append]; omega) (B1.length + j) (by omega) (by simp only [List.length_append]; omega)
      rwa [jH _ _ hi, ZZ] at this
    have h21 : ∀ x ∈ B1, ∀ y ∈ A2, x.often_ < y.often_ := by
      intro x hx y hy
      obtain ⟨j, hj, rfl⟩ := jZ hx
      obtain ⟨i, hi, rfl⟩ := jZ hy
      have := q4 (A1.length + i) (by omega) (by simp only [List.length_append]; omega) j (by omega)
      rwa [jH _ _ hj, ZZ] at this
    simp only [List.length_append] at hl' hK' hd hA0 hB0 hA1 hB1 g2 g4 g5 g6 hmid
    unfold qa.j11
    rw [show qg (((mid + (P.length + (A1 ++ A2).length) : Nat) : Int) - ((P.length + q : Nat) : Int)) = ((P.length + A1.length + A2.length + B1.length : Nat) : Int) from by simp only [List.length_append]; rw [qs (by omega) (by omega)]; omega, qC]
    -- turned round, or not
    have hrot : ∀ g : List PK → qN (List PK), (cond (decide (((P.length + q : Nat) : Int) < ((P.length + (A1 ++ A2).length : Nat) : Int)) && decide (((P.length + (A1 ++ A2).length : Nat) : Int) < ((P.length + A1.length + A2.length + B1.length : Nat) : Int)))
        ((qw.m K (P ++ (A1 ++ A2) ++ (B1 ++ B2) ++ Q) ((P.length + q : Nat) : Int) ((P.length + (A1 ++ A2).length : Nat) : Int) ((P.length + A1.length + A2.length + B1.length : Nat) : Int)).bind g)
        (g (P ++ (A1 ++ A2) ++ (B1 ++ B2) ++ Q))) = g (P ++ A1 ++ B1 ++ (A2 ++ B2 ++ Q)) := by
      intro g
      simp only [List.length_append]
      by_cases hA2 : A2.length = 0
      · have := List.length_eq_zero_iff.1 hA2
        subst this
        rw [show decide (((P.length + q : Nat) : Int) < ((P.length + (A1.length + ([] : List PK).length) : Nat) : Int)) = false from by simp only [List.length_nil, decide_eq_false_iff_not]; omega]
        simp
      · by_cases hB2 : B1.length = 0
        · have := List.length_eq_zero_iff.1 hB2
          subst this
          rw [show decide (((P.length + (A1.length + A2.length) : Nat) : Int) < ((P.length + A1.length + A2.length + ([] : List PK).length : Nat) : Int)) = false from by simp only [List.length_nil, decide_eq_false_iff_not]; omega]
          simp
        · rw [show decide (((P.length + q : Nat) : Int) < ((P.length + (A1.length + A2.length) : Nat) : Int)) = true from by simp only [decide_eq_true_eq]; omega, show decide (((P.length + (A1.length + A2.length) : Nat) : Int) < ((P.length + A1.length + A2.length + B1.length : Nat) : Int)) = true from by simp only [decide_eq_true_eq]; omega,
            Bool.and_self, cond_true]
          have := Lk K (P ++ A1) A2 B1 (B2 ++ Q) (by omega) (by omega) (by simp only [List.length_append]; omega) (by simp only [List.length_append]; omega) (a := ((P.length + q : Nat) : Int)) (m := ((P.length + (A1.length + A2.length) : Nat) : Int)) (b := ((P.length + A1.length + A2.length + B1.length : Nat) : Int))
            (by simp only [List.length_append]; omega) (by simp only [List.length_append]; omega) (by simp only [List.length_append])
          rw [show P ++ (A1 ++ A2) ++ (B1 ++ B2) ++ Q = P ++ A1 ++ A2 ++ B1 ++ (B2 ++ Q) from by simp, this, qN.bind_ok]
          simp
    rw [hrot]
    unfold qa.j12
    -- the first half
    have hfirst : ∃ M1, SS (A1 ++ B1) M1 ∧ ∀ g : List PK → qN (List PK), (cond (decide ((P.length : Int) < ((P.length + q : Nat) : Int)) && decide (((P.length + q : Nat) : Int) < (mid : Int)))
        ((qa.r K d (P ++ A1 ++ B1 ++ (A2 ++ B2 ++ Q)) (P.length : Int) ((P.length + q : Nat) : Int) (mid : Int)).bind g) (g (P ++ A1 ++ B1 ++ (A2 ++ B2 ++ Q)))) = g (P ++ M1 ++ (A2 ++ B2 ++ Q)) := by
      by_cases h0 : A1.length = 0
      · have := List.length_eq_zero_iff.1 h0
        subst this
        refine ⟨B1, by simpa using SS.refl hB.left, fun g => ?_⟩
        rw [show decide ((P.length : Int) < ((P.length + q : Nat) : Int)) = false from by simp only [decide_eq_false_iff_not]; simp only [List.length_nil] at hA1l; omega]
        simp
      · by_cases h1 : B1.length = 0
        · have := List.length_eq_zero_iff.1 h1
          subst this
          refine ⟨A1, by simpa using SS.refl hA.left, fun g => ?_⟩
          rw [show decide (((P.length + q : Nat) : Int) < (mid : Int)) = false from by simp only [decide_eq_false_iff_not]; simp only [List.length_nil] at hB1l; omega]
          simp
        · obtain ⟨M1, m1, m2⟩ := ih P A1 B1 (A2 ++ B2 ++ Q) hA.left hB.left (by omega) (by omega) (by omega) (by simp only [List.length_append]; omega) (by simp only [List.length_append]; omega)
          refine ⟨M1, m1, fun g => ?_⟩
          rw [show decide ((P.length : Int) < ((P.length + q : Nat) : Int)) = true from by simp only [decide_eq_true_eq]; omega, show decide (((P.length + q : Nat) : Int) < (mid : Int)) = true from by simp only [decide_eq_true_eq]; omega, Bool.and_self, cond_true,
            show ((P.length + q : Nat) : Int) = ((P.length + A1.length : Nat) : Int) from by rw [hA1l], show (mid : Int) = ((P.length + A1.length + B1.length : Nat) : Int) from by omega, m2]
          rfl
    obtain ⟨M1, hM1, hg1⟩ := hfirst
    rw [hg1]
    unfold qa.j13
    have hM1l : M1.length = A1.length + B1.length := by have := hM1.2.1.length_eq; simpa using this
    have hsecond : ∃ M2, SS (A2 ++ B2) M2 ∧ (cond (decide ((mid : Int) < ((P.length + A1.length + A2.length + B1.length : Nat) : Int)) && decide (((P.length + A1.length + A2.length + B1.length : Nat) : Int) < ((P.length + (A1 ++ A2).length + (B1 ++ B2).length : Nat) : Int)))
        ((qa.r K d (P ++ M1 ++ (A2 ++ B2 ++ Q)) (mid : Int) ((P.length + A1.length + A2.length + B1.length : Nat) : Int) ((P.length + (A1 ++ A2).length + (B1 ++ B2).length : Nat) : Int)).bind fun data => .ok data) (.ok (P ++ M1 ++ (A2 ++ B2 ++ Q)))) = .ok (P ++ (M1 ++ M2) ++ Q) := by
      simp only [List.length_append]
      by_cases h0 : A2.length = 0
      · have := List.length_eq_zero_iff.1 h0
        subst this
        refine ⟨B2, by simpa using SS.refl hB.right, ?_⟩
        rw [show decide ((mid : Int) < ((P.length + A1.length + ([] : List PK).length + B1.length : Nat) : Int)) = false from by simp only [List.length_nil, decide_eq_false_iff_not]; omega]
        simp
      · by_cases h1 : B2.length = 0
        · have := List.length_eq_zero_iff.1 h1
          subst this
          refine ⟨A2, by simpa using SS.refl hA.right, ?_⟩
          rw [show decide (((P.length + A1.length + A2.length + B1.length : Nat) : Int) < ((P.length + (A1.length + A2.length) + (B1.length + ([] : List PK).length) : Nat) : Int)) = false from by simp only [List.length_nil, decide_eq_false_iff_not]; omega]
          simp
        · obtain ⟨M2, m1, m2⟩ := ih (P ++ M1) A2 B2 Q hA.right hB.right (by omega) (by omega) (by omega) (by simp only [List.length_append]; omega) (by simp only [List.length_append]; omega)
          refine ⟨M2, m1, ?_⟩
          rw [show decide ((mid : Int) < ((P.length + A1.length + A2.length + B1.length : Nat) : Int)) = true from by simp only [decide_eq_true_eq]; omega, show decide (((P.length + A1.length + A2.length + B1.length : Nat) : Int) < ((P.length + (A1.length + A2.length) + (B1.length + B2.length) : Nat) : Int)) = true from by simp only [decide_eq_true_eq]; omega, Bool.and_self, cond_true]
          rw [show P ++ M1 ++ (A2 ++ B2 ++ Q) = P ++ M1 ++ A2 ++ B2 ++ Q from by simp, show (mid : Int) = ((P ++ M1).length : Int) from by simp only [List.length_append]; omega,
            show ((P.length + A1.length + A2.length + B1.length : Nat) : Int) = (((P ++ M1).length + A2.length : Nat) : Int) from by simp only [List.length_append]; omega,
            show ((P.length + (A1.length + A2.length) + (B1.length + B2.length) : Nat) : Int) = (((P ++ M1).length + A2.length + B2.length : Nat) : Int) from by simp only [List.length_append]; omega, m2]
          simp
    obtain ⟨M2, hM2, hg2⟩ := hsecond
    exact ⟨M1 ++ M2, SS.join hM1 hM2 hA hB h12 h21, hg2⟩
end Go.Pu

set_option maxRecDepth 100000
namespace Go.Pu
open Go Go.Sl Go.Mo
def SF (l l' : List PK) : Prop := l'.Perm l ∧ ∀ k : Int, l'.filter (fun x => x.often_ == k) = l.filter (fun x => x.often_ == k)
theorem SF.refl (l : List PK) : SF l l := ⟨List.Perm.refl _, fun _ => rfl⟩
theorem SF.trans {a b c : List PK} (h : SF a b) (h' : SF b c) : SF a c := ⟨h'.1.trans h.1, fun k => (h'.2 k).trans (h.2 k)⟩
theorem SF.append {a b c d : List PK} (h : SF a b) (h' : SF c d) : SF (a ++ c) (b ++ d) := ⟨h.1.append h'.1, fun k => by rw [List.filter_append, List.filter_append, h.2 k, h'.2 k]⟩
theorem SS.sf {a b : List PK} (h : SS a b) : SF a b := ⟨h.2.1, h.2.2⟩
theorem SS.of {a b : List PK} (h : SF a b) (h' : jL b) : SS a b := ⟨h', h.1, h.2⟩
theorem SF.len {a b : List PK} (h : SF a b) : b.length = a.length := h.1.length_eq
inductive Bk (bs : Nat) : List PK → Prop
  | last {X : List PK} (h : jL X) (hl : X.length ≤ bs) : Bk bs X
  | cons {X T : List PK} (h : jL X) (hl : X.length = bs) (ht : Bk bs T) : Bk bs (X ++ T)
theorem KK (K : Nat) (hK : (1099511627776 : Nat) > K) (N : Nat) (hN : N + 1 < K) : ∀ (k : Nat) (D T : List PK), D.length + T.length = N → T.length < 20 * k →
    ∃ T', SF T T' ∧ Bk 20 T' ∧ qd.l1 K (N : Int) k (D ++ T) (D.length : Int) ((D.length + 20 : Nat) : Int) = qd.l3 K (N : Int) K (D ++ T') 20 := by
  intro k
  induction k with
  | zero => intro D T _ h; omega
  | succ k ih =>
    intro D T h1 h2
    rw [qd.l1, qq]
    by_cases hc : D.length + 20 ≤ N
    · rw [if_pos (by omega)]
      obtain ⟨X, T2, rfl, hX⟩ : ∃ X T2, T = X ++ T2 ∧ X.length = 20 := ⟨T.take 20, T.drop 20, by simp, by rw [List.length_take]; omega⟩
      simp only [List.length_append] at h1 h2
      obtain ⟨X', x1, x2⟩ := YZ K D X T2 hK (by simp only [List.length_append]; omega) (a := (D.length : Int)) (b := ((D.length + 20 : Nat) : Int)) rfl (by rw [hX])
      have hX' := x1.sf.len
      obtain ⟨T', t1, t2, t3⟩ := ih (D ++ X') T2 (by simp only [List.length_append]; omega) (by omega)
      refine ⟨X' ++ T', x1.sf.append t1, .cons x1.1 (by omega) t2, ?_⟩
      rw [← List.append_assoc, x2, qN.bind_ok, qC, show qg (((D.length + 20 : Nat) : Int) + 20) = (((D ++ X').length + 20 : Nat) : Int) from by rw [qs (by omega) (by omega)]; simp only [List.length_append]; omega,
        show ((D.length + 20 : Nat) : Int) = ((D ++ X').length : Int) from by simp only [List.length_append]; omega, t3]
      simp
    · rw [if_neg (by omega)]
      unfold qd.j2
      obtain ⟨T', t1, t2⟩ := YZ K D T [] hK (by simp only [List.length_append, List.length_nil]; omega) (a := (D.length : Int)) (b := (N : Int)) rfl (by omega)
      refine ⟨T', t1.sf, .last t1.1 (by have := t1.sf.len; omega), ?_⟩
      simp only [List.append_nil] at t2
      rw [t2]; rfl
theorem Bk.two {bs : Nat} {T : List PK} (h : Bk bs T) (hl : 2 * bs ≤ T.length) (hb : 0 < bs) : ∃ X Y T2, T = X ++ Y ++ T2 ∧ X.length = bs ∧ Y.length = bs ∧ jL X ∧ jL Y ∧ Bk bs T2 := by
  cases h with
  | last h hl2 => omega
  | @cons X T h hl2 ht =>
    simp only [List.length_append] at hl
    cases ht with
    | last h' hl' => exact ⟨X, T, [], by simp, hl2, by omega, h, h', .last List.Pairwise.nil (by simp)⟩
    | @cons Y T2 h' hl' ht' => exact ⟨X, Y, T2, by simp, hl2, hl', h, h', ht'⟩
theorem Bk.rest {bs : Nat} {T : List PK} (h : Bk bs T) (hl : T.length < 2 * bs) : jL T ∧ T.length ≤ bs ∨ ∃ X Y, T = X ++ Y ∧ X.length = bs ∧ jL X ∧ jL Y ∧ Y.length < bs := by
  cases h with
  | last h hl2 => exact .inl ⟨h, hl2⟩
  | @cons X T h hl2 ht =>
    simp only [List.length_append] at hl
    cases ht with
    | last h' hl' => exact .inr ⟨X, T, rfl, hl2, h, h', by omega⟩
    | @cons Y T2 h' hl' ht' =>
      simp only [List.length_append] at hl; omega
theorem Jq (K : Nat) (P A B Q : List PK) (hA : jL A) (hB : jL B) (hA0 : 0 < A.length) (hB0 : 0 < B.length) (hl : (P ++ A ++ B ++ Q).length < 274877906944) (hK : (P ++ A ++ B ++ Q).length < K) {a m b : Int} (ha : a = (P.length : Int)) (hm : m = ((P.length + A.length : Nat) : Int)) (hb : b = ((P.length + A.length + B.length : Nat) : Int)) :
    ∃ M, SS (A ++ B) M ∧ qa.m K (P ++ A ++ B ++ Q) a m b = .ok (P ++ M ++ Q) := by
  subst ha; subst hm; subst hb
  exact Du K K P A B Q hA hB hA0 hB0 (by simp only [List.length_append] at hK; omega) hl hK
theorem Vy (K : Nat) (N : Nat) (hN : N + 1 < K) (hN2 : N < 137438953472) (g : List PK → Int → qN (List PK)) (bs : Nat) (hb : 0 < bs) (hb2 : bs < N) : ∀ (k : Nat) (D T : List PK), D.length + T.length = N → T.length < 2 * bs * k → Bk bs T →
    ∃ T', SF T T' ∧ Bk (2 * bs) T' ∧ qd.l4 K g (N : Int) (bs : Int) k (D ++ T) (D.length : Int) ((D.length + 2 * bs : Nat) : Int) = g (D ++ T') ((2 * bs : Nat) : Int) := by
  intro k
  induction k with
  | zero => intro D T _ h; omega
  | succ k ih =>
    intro D T h1 h2 hB
    rw [qd.l4, qq]
    by_cases hc : D.length + 2 * bs ≤ N
    · rw [if_pos (by omega)]
      obtain ⟨X, Y, T2, rfl, hX, hY, sX, sY, hT2⟩ := hB.two (by omega) hb
      simp only [List.length_append] at h1 h2
      obtain ⟨M, m1, m2⟩ := Jq K D X Y T2 sX sY (by omega) (by omega) (by simp only [List.length_append]; omega) (by simp only [List.length_append]; omega) (a := (D.length : Int)) (m := qg ((D.length : Int) + (bs : Int))) (b := ((D.length + 2 * bs : Nat) : Int)) rfl
        (by rw [qs (by omega) (by omega)]; omega) (by omega)
      have hM := m1.sf.len
      simp only [List.length_append] at hM
      obtain ⟨T', t1, t2, t3⟩ := ih (D ++ M) T2 (by simp only [List.length_append]; omega) (by rw [Nat.mul_succ] at h2; omega) hT2
      refine ⟨M ++ T', m1.sf.append t1, .cons m1.1 (by omega) t2, ?_⟩
      rw [show D ++ (X ++ Y ++ T2) = D ++ X ++ Y ++ T2 from by simp, m2, qN.bind_ok, qC, show qg (2 * (bs : Int)) = ((2 * bs : Nat) : Int) from by rw [qs (by omega) (by omega)]; omega,
        show qg (((D.length + 2 * bs : Nat) : Int) + ((2 * bs : Nat) : Int)) = (((D ++ M).length + 2 * bs : Nat) : Int) from by rw [qs (by omega) (by omega)]; simp only [List.length_append]; omega,
        show ((D.length + 2 * bs : Nat) : Int) = ((D ++ M).length : Int) from by simp only [List.length_append]; omega, t3]
      simp
    · rw [if_neg (by omega)]
      unfold qd.j5
      rw [show qg ((D.length : Int) + (bs : Int)) = ((D.length + bs : Nat) : Int) from by rw [qs (by omega) (by omega)]; rfl, qC, qq, show qg ((bs : Int) * 2) = ((2 * bs : Nat) : Int) from by rw [qs (by omega) (by omega)]; omega]
      rcases hB.rest (by omega) with ⟨s1, s2⟩ | ⟨X, Y, rfl, hX, sX, sY, hY⟩
      · rw [if_neg (by omega), qC]
        exact ⟨T, SF.refl _, .last s1 (by omega), rfl⟩
      · simp only [List.length_append] at h1 h2
        by_cases hY0 : Y.length = 0
        · rw [if_neg (by omega), qC]
          have := List.length_eq_zero_iff.1 hY0
          subst this
          exact ⟨X ++ [], SF.refl _, .last (by simpa using sX) (by simp; omega), rfl⟩
        · rw [if_pos (by omega)]
          obtain ⟨M, m1, m2⟩ := Jq K D X Y [] sX sY (by omega) (by omega) (by simp only [List.length_append, List.length_nil]; omega) (by simp only [List.length_append, List.length_nil]; omega) (a := (D.length : Int)) (m := ((D.length + bs : Nat) : Int)) (b := (N : Int)) rfl (by omega) (by omega)
          refine ⟨M, m1.sf, .last m1.1 (by have := m1.sf.len; simp only [List.length_append] at this; omega), ?_⟩
          simp only [List.append_nil] at m2
          rw [← List.append_assoc, m2, qN.bind_ok, qC]
theorem Bk.srt {bs : Nat} {T : List PK} (h : Bk bs T) (hl : T.length ≤ bs) : jL T := by
  cases h with
  | last h _ => exact h
  | @cons X T h hl2 ht =>
    simp only [List.length_append] at hl
    have : T = [] := List.length_eq_zero_iff.1 (by omega)
    subst this
    simpa using h
theorem BQ (K : Nat) (N : Nat) (hN : N + 1 < K) (hN2 : N < 137438953472) : ∀ (k : Nat) (bs : Nat) (T : List PK), 0 < bs → T.length = N → N < bs + k → Bk bs T →
    ∃ T', SS T T' ∧ qd.l3 K (N : Int) (k + 1) T (bs : Int) = .ok T' := by
  intro k
  induction k with
  | zero =>
    intro bs T h0 h1 h2 hB
    refine ⟨T, SS.refl (hB.srt (by omega)), ?_⟩
    rw [qd.l3, qq, if_neg (by omega)]
  | succ k ih =>
    intro bs T h0 h1 h2 hB
    rw [qd.l3, qq]
    by_cases hc : bs < N
    · rw [if_pos (by omega), show qg (2 * (bs : Int)) = ((2 * bs : Nat) : Int) from by rw [qs (by omega) (by omega)]; omega, qC]
      have hmul : T.length < 2 * bs * K := by
        have : 1 * K ≤ 2 * bs * K := Nat.mul_le_mul_right K (by omega)
        omega
      obtain ⟨T1, t1, t2, t3⟩ := Vy K N hN hN2 (qd.l3 K (N : Int) (k + 1)) bs h0 hc K [] T (by simpa using h1) hmul hB
      obtain ⟨T', s1, s2⟩ := ih (2 * bs) T1 (by omega) (by rw [t1.len]; exact h1) (by omega) t2
      refine ⟨T', SS.of (t1.trans s1.sf) s1.1, ?_⟩
      rw [← s2]
      simpa using t3
    · rw [if_neg (by omega)]
      exact ⟨T, SS.refl (hB.srt (by omega)), rfl⟩
theorem Yx (K : Nat) (l : List PK) (hK : (1099511627776 : Nat) > K) (hl : l.length + 1 < K) (hl2 : l.length < 137438953472) :
    ∃ l', SS l l' ∧ qU.m K l = .ok l' := by
  obtain ⟨k, rfl⟩ : ∃ m, K = m + 1 := ⟨K - 1, by omega⟩
  unfold qU.m qd.m
  obtain ⟨T, t1, t2, t3⟩ := KK (k + 1) hK l.length hl (k + 1) [] l (by simp) (by omega)
  obtain ⟨l', s1, s2⟩ := BQ (k + 1) l.length hl hl2 k 20 T (by decide) t1.len (by omega) t2
  refine ⟨l', SS.of (t1.trans s1.sf) s1.1, ?_⟩
  have t3' : qd.l1 (k + 1) (l.length : Int) (k + 1) l 0 20 = qd.l3 (k + 1) (l.length : Int) (k + 1) T 20 := by simpa using t3
  rw [t3', show (20 : Int) = ((20 : Nat) : Int) from rfl, s2]
  rfl
theorem Dp : @qU.m = @qU.m := by kernel_rfl
end Go.Pu

set_option maxRecDepth 100000
namespace Go.Pu
open Go Go.Sl Go.Mo
theorem LK (K : Nat) (n : Nat) (h : n < 1099511627776) : xO.m K (n : Int) = .ok () := by
  unfold xO.m
  rw [qq, if_neg (by omega), qC, show qg ((n : Int) - qg (0 - 0)) = (n : Int) from by rw [qs (x := 0 - 0) (by omega) (by omega), qs (by omega) (by omega)]; omega, qq]
  by_cases h0 : (n : Int) > 0
  · rw [if_pos h0, show (decide ((0 : Int) < (n : Int)) && room (Int.toNat (n : Int)) 8) = true from by rw [Bool.and_eq_true, decide_eq_true_eq]; exact ⟨h0, zh (by rw [Int.toNat_natCast]; omega)⟩, qf]
  · rw [if_neg h0]
theorem LL (K : Nat) (n : Nat) (h : n < 1099511627776) : zY.m K (n : Int) = .ok () := by
  unfold zY.m
  rw [qq, if_neg (by omega), qC, show qg ((n : Int) - qg (0 - 0)) = (n : Int) from by rw [qs (x := 0 - 0) (by omega) (by omega), qs (by omega) (by omega)]; omega, qq]
  by_cases h0 : (n : Int) > 0
  · rw [if_pos h0, show (decide ((0 : Int) < (n : Int)) && room (Int.toNat (n : Int)) 32) = true from by rw [Bool.and_eq_true, decide_eq_true_eq]; exact ⟨h0, zh (by rw [Int.toNat_natCast]; omega)⟩, qf]
  · rw [if_neg h0]
theorem DK (K : Nat) (a b : List Int) (hK : 3 ≤ K) (h : a.length + b.length < 1099511627776) : qT.m K [a, b] = .ok (a ++ b) := by
  obtain ⟨k, rfl⟩ : ∃ m, K = m + 3 := ⟨K - 3, by omega⟩
  have i0 : inb (0 : Int) ([a, b] : List (List Int)).length = true := rfl
  have i1 : inb (1 : Int) ([a, b] : List (List Int)).length = true := rfl
  have r0 : rd [a, b] (0 : Int) = a := rfl
  have r1 : rd [a, b] (1 : Int) = b := rfl
  have w1 : qg ((0 : Int) + 1) = 1 := rfl
  have w2 : qg ((1 : Int) + 1) = 2 := rfl
  have c0 : decide ((0 : Int) < (([a, b] : List (List Int)).length : Int)) = true := rfl
  have c1 : decide ((1 : Int) < (([a, b] : List (List Int)).length : Int)) = true := rfl
  have c2 : decide ((2 : Int) < (([a, b] : List (List Int)).length : Int)) = false := rfl
  have s1 : qg (0 + (a.length : Int)) = (a.length : Int) := by rw [qs (by omega) (by omega)]; omega
  have s2 : qg ((a.length : Int) + (b.length : Int)) = ((a.length + b.length : Nat) : Int) := by rw [qs (by omega) (by omega)]; omega
  unfold qT.m
  simp only [qT.l1, c0, c1, c2, cond_true, cond_false, i0, i1, qf, r0, r1, s1, s2, qC, w1, w2]
  rw [qq, if_neg (by omega), qq, if_neg (by omega)]
  unfold qT.j2
  rw [LK _ _ (by omega), qN.bind_ok]
  simp only [qT.l3, c0, c1, c2, cond_true, cond_false, i0, i1, qf, r0, r1, qC, w1, w2]
  rw [zh (by simp only [List.length_nil]; omega), qf, zh (by simp only [List.nil_append]; omega), qf]
  simp
theorem DL (K : Nat) (a b : List PK) (hK : 3 ≤ K) (h : a.length + b.length < 1099511627776) : qu.m K [a, b] = .ok (a ++ b) := by
  obtain ⟨k, rfl⟩ : ∃ m, K = m + 3 := ⟨K - 3, by omega⟩
  have i0 : inb (0 : Int) ([a, b] : List (List PK)).length = true := rfl
  have i1 : inb (1 : Int) ([a, b] : List (List PK)).length = true := rfl
  have r0 : rd [a, b] (0 : Int) = a := rfl
  have r1 : rd [a, b] (1 : Int) = b := rfl
  have w1 : qg ((0 : Int) + 1) = 1 := rfl
  have w2 : qg ((1 : Int) + 1) = 2 := rfl
  have c0 : decide ((0 : Int) < (([a, b] : List (List PK)).length : Int)) = true := rfl
  have c1 : decide ((1 : Int) < (([a, b] : List (List PK)).length : Int)) = true := rfl
  have c2 : decide ((2 : Int) < (([a, b] : List (List PK)).length : Int)) = false := rfl
  have s1 : qg (0 + (a.length : Int)) = (a.length : Int) := by rw [qs (by omega) (by omega)]; omega
  have s2 : qg ((a.length : Int) + (b.length : Int)) = ((a.length + b.length : Nat) : Int) := by rw [qs (by omega) (by omega)]; omega
  unfold qu.m
  simp only [qu.l1, c0, c1, c2, cond_true, cond_false, i0, i1, qf, r0, r1, s1, s2, qC, w1, w2]
  rw [qq, if_neg (by omega), qq, if_neg (by omega)]
  unfold qu.j2
  rw [LL _ _ (by omega), qN.bind_ok]
  simp only [qu.l3, c0, c1, c2, cond_true, cond_false, i0, i1, qf, r0, r1, qC, w1, w2]
  rw [zh (by simp only [List.length_nil]; omega), qf, zh (by simp only [List.nil_append]; omega), qf]
  simp
def prs : List PK → List PK
  | x :: y :: r => ⟨x.often_ + y.often_, x.symbols_ ++ y.symbols_⟩ :: prs r
  | _ => []
theorem u7 : ∀ l : List PK, (prs l).length = l.length / 2
  | [] => rfl
  | [_] => by simp [prs]
  | x :: y :: r => by simp only [prs, List.length_cons, u7 r]; omega
theorem Jc (K : Nat) (hK : 3 ≤ K) (N : Nat) (hN : N < 1073741824) : ∀ (R D O : List PK) (k : Nat), (D ++ R).length = N → 2 * O.length ≤ D.length → R.length < 2 * k → (∀ p ∈ R, 0 ≤ p.often_ ∧ p.often_ < 4611686018427387904 ∧ p.symbols_.length < 1073741824) →
    xX.l1 K (D ++ R) k O (D.length : Int) = .ok (O ++ prs R)
  | [], D, O, k, h1, h3, h2, hb => by
    obtain ⟨k, rfl⟩ : ∃ m, k = m + 1 := ⟨k - 1, by simp at h2; omega⟩
    simp only [List.length_append, List.length_nil] at h1
    rw [xX.l1, qs (by omega) (by omega), qq, if_neg (by simp only [List.append_nil]; omega)]
    simp [prs]
  | [x], D, O, k, h1, h3, h2, hb => by
    obtain ⟨k, rfl⟩ : ∃ m, k = m + 1 := ⟨k - 1, by simp at h2; omega⟩
    simp only [List.length_append, List.length_cons, List.length_nil] at h1
    rw [xX.l1, qs (by omega) (by omega), qq, if_neg (by simp only [List.length_append, List.length_cons, List.length_nil]; omega)]
    simp [prs]
  | x :: y :: R, D, O, k, h1, h3, h2, hb => by
    obtain ⟨k, rfl⟩ : ∃ m, k = m + 1 := ⟨k - 1, by simp at h2; omega⟩
    have h1' := h1
    simp only [List.length_append, List.length_cons] at h1 h2
    have hx := hb x (by simp)
    have hy := hb y (by simp)
    have e1 : qg ((D.length : Int) + 1) = ((D ++ [x]).length : Int) := by rw [qs (by omega) (by omega)]; simp
    have d1 : D ++ x :: y :: R = (D ++ [x]) ++ y :: R := by simp
    have ry : rd (D ++ x :: y :: R) ((D ++ [x]).length : Int) = y := by rw [d1]; exact y9 _ _ _ rfl
    have by_ : inb ((D ++ [x]).length : Int) (D ++ x :: y :: R).length = true := by rw [d1]; exact y5 _ _ _ rfl
    rw [xX.l1, e1, qq, if_pos (by simp only [List.length_append, List.length_cons, List.length_nil]; omega), y5 _ _ _ rfl, qf, by_, qf, y9 _ _ _ rfl, ry, DK K _ _ hK (by omega), qN.bind_ok,
      zh (by simp only [List.length_cons, List.length_nil]; omega), qf, qC, qs (x := x.often_ + y.often_) (by omega) (by omega), qC,
      show qg ((D.length : Int) + 2) = ((D ++ [x, y]).length : Int) from by rw [qs (by omega) (by omega)]; simp]
    have := Jc K hK N hN R (D ++ [x, y]) (O ++ [⟨x.often_ + y.often_, x.symbols_ ++ y.symbols_⟩]) k (by simp only [List.length_append, List.length_cons, List.length_nil]; omega)
      (by simp only [List.length_append, List.length_cons, List.length_nil]; omega) (by omega) (fun p hp => hb p (by simp [hp]))
    rw [show D ++ x :: y :: R = D ++ [x, y] ++ R from by simp, this]
    simp [prs]
theorem KU (K : Nat) (R : List PK) (hK : 3 ≤ K) (hl : R.length < 1073741824) (hl2 : R.length < 2 * K) (hb : ∀ p ∈ R, 0 ≤ p.often_ ∧ p.often_ < 4611686018427387904 ∧ p.symbols_.length < 1073741824) : xX.m K R = .ok (prs R) := by
  have := Jc K hK R.length hl R [] [] K (by simp) (by simp) hl2 hb
  simpa [xX.m] using this
theorem Uy (K : Nat) (a b : List PK) (hK : 3 ≤ K) (hK2 : (1099511627776 : Nat) > K) (hl : a.length + b.length + 1 < K) (hl2 : a.length + b.length < 137438953472) : ∃ R, SS (a ++ b) R ∧ yZ.m K a b = .ok R := by
  obtain ⟨R, h1, h2⟩ := Yx K (a ++ b) hK2 (by simp only [List.length_append]; omega) (by simp only [List.length_append]; omega)
  refine ⟨R, h1, ?_⟩
  unfold yZ.m
  rw [DL K a b hK (by omega), qN.bind_ok, Dp, h2]
  rfl
theorem Kj : ∀ {l : List PK}, jL l → jL (prs l)
  | [], _ => List.Pairwise.nil
  | [_], _ => by simp [prs, jL]
  | x :: y :: r, h => by
    have h1 := List.pairwise_cons.1 h
    have h2 := List.pairwise_cons.1 h1.2
    refine List.pairwise_cons.2 ⟨fun p hp => ?_, Kj (l := r) h2.2⟩
    have : ∀ {r : List PK}, ∀ p ∈ prs r, ∃ u ∈ r, ∃ v ∈ r, p.often_ = u.often_ + v.often_ := by
      intro r
      induction r using prs.induct with
      | case1 u v r ih =>
        intro p hp
        simp only [prs, List.mem_cons] at hp
        rcases hp with rfl | hp
        · exact ⟨u, by simp, v, by simp, rfl⟩
        · obtain ⟨a, ha, b, hb, h⟩ := ih p hp
          exact ⟨a, by simp [ha], b, by simp [hb], h⟩
      | case2 r hr =>
        intro p hp
        unfold prs at hp
        split at hp
        · rename_i a b c; exact (hr a b c rfl).elim
        · cases hp
    obtain ⟨u, hu, v, hv, he⟩ := this p hp
    have g1 := h1.1 u (by simp [hu])
    have g2 := h2.1 v hv
    show x.often_ + y.often_ ≤ p.often_
    omega
theorem Yy : ∀ {a b : List PK}, jL a → jL b → (∀ k : Int, a.filter (fun x => x.often_ == k) = b.filter (fun x => x.often_ == k)) → a = b
  | [], [], _, _, _ => rfl
  | [], y :: b, _, _, h => by have := h y.often_; simp at this
  | x :: a, [], _, _, h => by have := h x.often_; simp at this
  | x :: a, y :: b, ha, hb, h => by
    have hx := List.pairwise_cons.1 ha
    have hy := List.pairwise_cons.1 hb
    have hle : ∀ {x y : PK} {a b : List PK}, (∀ z ∈ a, x.often_ ≤ z.often_) → (x :: a).filter (fun z => z.often_ == y.often_) = (y :: b).filter (fun z => z.often_ == y.often_) → x.often_ ≤ y.often_ := by
      intro x y a b hx h
      have hm : y ∈ (x :: a).filter (fun z => z.often_ == y.often_) := by rw [h]; simp
      rw [List.mem_filter] at hm
      rcases List.mem_cons.1 hm.1 with h1 | h1
      · rw [h1]; exact Int.le_refl _
      · exact hx y h1
    have e : x.often_ = y.often_ := Int.le_antisymm (hle hx.1 (h y.often_)) (hle hy.1 (h x.often_).symm)
    have h0 := h x.often_
    simp only [List.filter_cons, beq_self_eq_true, if_true, ← e] at h0
    simp only [List.cons.injEq] at h0
    rw [h0.1, Yy hx.2 hy.2 fun k => ?_]
    have hk := h k
    simp only [List.filter_cons, e] at hk
    by_cases hkk : (y.often_ == k) = true
    · simp only [hkk, if_true, List.cons.injEq] at hk; exact hk.2
    · simp only [hkk] at hk; simpa using hk
theorem uj {α : Type} (p q : α → Bool) (l : List α) : (l.filter p).filter q = (l.filter q).filter p := by
  simp only [List.filter_filter]
  congr 1; funext x; rw [Bool.and_comm]
theorem SS.kind {a b R : List PK} (h : SS (a ++ b) R) (p : PK → Bool) (ha : jL a) (h1 : ∀ x ∈ a, p x = true) (h2 : ∀ x ∈ b, p x = false) : R.filter p = a := by
  refine Yy (h.1.sublist (List.filter_sublist)) ha fun k => ?_
  have e : b.filter p = [] := List.filter_eq_nil_iff.2 (fun x hx => by simp [h2 x hx])
  rw [uj, h.2.2 k, uj, List.filter_append, List.filter_eq_self.2 h1, e, List.append_nil]
theorem SS.kind2 {a b R : List PK} (h : SS (a ++ b) R) (p : PK → Bool) (hb : jL b) (h1 : ∀ x ∈ a, p x = false) (h2 : ∀ x ∈ b, p x = true) : R.filter p = b := by
  refine Yy (h.1.sublist (List.filter_sublist)) hb fun k => ?_
  have e : a.filter p = [] := List.filter_eq_nil_iff.2 (fun x hx => by simp [h1 x hx])
  rw [uj, h.2.2 k, uj, List.filter_append, List.filter_eq_self.2 h2, e, List.nil_append]
end Go.Pu

set_option maxRecDepth 100000
namespace Go.Pu
open Go Go.Sl Go.Mo
def y3 (p : PK) : Bool := p.symbols_.length == 1
def xp (l : List PK) : List Int := l.flatMap (·.symbols_)
structure Rows (X : List PK) (R : Nat → List PK) : Prop where
  zero : R 0 = X
  succ : ∀ t, SS (X ++ prs (R t)) (R (t + 1))
  one : ∀ p ∈ X, p.symbols_.length = 1
  pos : ∀ p ∈ X, 0 < p.often_
  srt : jL X
theorem JV : ∀ {r : List PK} {p : PK}, p ∈ prs r → ∃ u ∈ r, ∃ v ∈ r, p.often_ = u.often_ + v.often_ ∧ p.symbols_ = u.symbols_ ++ v.symbols_ := by
  intro r
  induction r using prs.induct with
  | case1 u v r ih =>
    intro p hp
    simp only [prs, List.mem_cons] at hp
    rcases hp with rfl | hp
    · exact ⟨u, by simp, v, by simp, rfl, rfl⟩
    · obtain ⟨a, ha, b, hb, h⟩ := ih hp
      exact ⟨a, by simp [ha], b, by simp [hb], h⟩
  | case2 r hr =>
    intro p hp
    unfold prs at hp
    split at hp
    · rename_i a b c; exact (hr a b c rfl).elim
    · cases hp
theorem Ki : ∀ {T : List PK} (U : List PK), T.length % 2 = 0 → prs (T ++ U) = prs T ++ prs U
  | [], U, _ => by simp [prs]
  | [x], U, h => by simp at h
  | x :: y :: T, U, h => by
    simp only [List.cons_append, prs]
    rw [Ki U (by simp only [List.length_cons] at h; omega)]
theorem Ym (l : List PK) (b : Nat) : (prs l).take b = prs (l.take (2 * b)) := by
  induction l using prs.induct generalizing b with
  | case1 u v r ih =>
    cases b with
    | zero => simp [prs]
    | succ b => rw [show 2 * (b + 1) = 2 * b + 1 + 1 from by omega]; simp only [prs, List.take_succ_cons, ih]
  | case2 r hr =>
    have h1 : prs r = [] := by
      unfold prs
      split
      · rename_i a b c; exact (hr a b c rfl).elim
      · rfl
    have h2 : prs (r.take (2 * b)) = [] := by
      have := u7 (r.take (2 * b))
      have h3 := u7 r
      rw [h1] at h3
      simp only [List.length_nil] at h3
      have h4 : (r.take (2 * b)).length ≤ r.length := (List.take_sublist _ _).length_le
      exact List.length_eq_zero_iff.1 (by omega)
    rw [h1, h2]; simp
theorem Z6 : ∀ {l : List PK}, l.length % 2 = 0 → xp (prs l) = xp l
  | [], _ => rfl
  | [x], h => by simp at h
  | x :: y :: r, h => by
    have := Z6 (l := r) (by simp only [List.length_cons] at h; omega)
    simp only [xp] at this
    simp only [xp, prs, List.flatMap_cons, this, List.append_assoc]
section
variable {X : List PK} {R : Nat → List PK} (H : Rows X R)
include H
theorem Rows.sorted : ∀ t, jL (R t)
  | 0 => by rw [H.zero]; exact H.srt
  | t + 1 => (H.succ t).1
theorem Rows.good : ∀ t, ∀ p ∈ R t, 0 < p.often_ ∧ 1 ≤ p.symbols_.length
  | 0, p, hp => by rw [H.zero] at hp; exact ⟨H.pos p hp, by rw [H.one p hp]; exact Nat.le_refl _⟩
  | t + 1, p, hp => by
    rcases List.mem_append.1 ((H.succ t).2.1.mem_iff.1 hp) with h | h
    · exact ⟨H.pos p h, by rw [H.one p h]; exact Nat.le_refl _⟩
    · obtain ⟨u, hu, v, hv, h1, h2⟩ := JV h
      have := Rows.good t u hu
      have := Rows.good t v hv
      exact ⟨by omega, by rw [h2, List.length_append]; omega⟩
theorem Rows.two (t : Nat) : ∀ p ∈ prs (R t), y3 p = false := by
  intro p hp
  obtain ⟨u, hu, v, hv, _, h2⟩ := JV hp
  have := (H.good t u hu).2
  have := (H.good t v hv).2
  simp only [y3, h2, List.length_append, beq_eq_false_iff_ne]; omega
theorem Rows.ones : ∀ p ∈ X, y3 p = true := fun p hp => by simp [y3, H.one p hp]
theorem Rows.singles (t : Nat) : (R (t + 1)).filter y3 = X := (H.succ t).kind y3 H.srt H.ones (H.two t)
theorem Rows.pairs (t : Nat) : (R (t + 1)).filter (fun p => !y3 p) = prs (R t) :=
  (H.succ t).kind2 (fun p => !y3 p) (Kj (H.sorted t)) (fun p hp => by simp [H.ones p hp]) (fun p hp => by simp [H.two t p hp])
theorem Rows.len (t : Nat) : (R (t + 1)).length = X.length + (R t).length / 2 := by
  rw [(H.succ t).2.1.length_eq, List.length_append, u7]
end
theorem QG {α : Type} (p : α → Bool) (l : List α) (m : Nat) : (l.take m).filter p = (l.filter p).take ((l.take m).filter p).length ∧ (l.drop m).filter p = (l.filter p).drop ((l.take m).filter p).length := by
  have h : l.filter p = (l.take m).filter p ++ (l.drop m).filter p := by rw [← List.filter_append, List.take_append_drop]
  constructor
  · conv => rhs; rw [h]
    simp
  · conv => rhs; rw [h]
    simp
def Uu (R : Nat → List PK) (t m : Nat) : Nat := (((R t).take m).filter y3).length
def u3 (R : Nat → List PK) (t m : Nat) : Nat := (((R t).take m).filter fun p => !y3 p).length
def JL (R : Nat → List PK) : Nat → Nat → List Nat
  | 0, m => [m]
  | t + 1, m => Uu R (t + 1) m :: JL R t (2 * u3 R (t + 1) m)
theorem XC (R : Nat → List PK) : ∀ t m, (JL R t m).length = t + 1
  | 0, _ => rfl
  | t + 1, m => by simp [JL, XC R t]
theorem Um {α : Type} (p : α → Bool) (l : List α) : (l.filter p).length + (l.filter fun x => !p x).length = l.length := by
  have := (List.filter_append_perm p l).length_eq
  simpa using this
theorem LW (R : Nat → List PK) (t m : Nat) (h : m ≤ (R t).length) : Uu R t m + u3 R t m = m := by
  have := Um y3 ((R t).take m)
  rw [List.length_take, Nat.min_eq_left h] at this
  exact this
section
variable {X : List PK} {R : Nat → List PK} (H : Rows X R)
include H
theorem Rows.takeOne (t m : Nat) : ((R (t + 1)).take m).filter y3 = X.take (Uu R (t + 1) m) := by
  have := (QG y3 (R (t + 1)) m).1
  rw [H.singles t] at this
  exact this
theorem Rows.takeTwo (t m : Nat) : ((R (t + 1)).take m).filter (fun p => !y3 p) = (prs (R t)).take (u3 R (t + 1) m) := by
  have := (QG (fun p => !y3 p) (R (t + 1)) m).1
  rw [H.pairs t] at this
  exact this
theorem Rows.twoLe (t m : Nat) : 2 * u3 R (t + 1) m ≤ (R t).length := by
  have h := congrArg List.length (H.pairs t)
  have h2 : u3 R (t + 1) m ≤ ((R (t + 1)).filter fun p => !y3 p).length := by
    have := (List.take_sublist m (R (t + 1))).filter (fun p => !y3 p)
    exact this.length_le
  rw [h, u7] at h2
  omega
theorem Rows.oneLe (t m : Nat) : Uu R (t + 1) m ≤ X.length := by
  have h := congrArg List.length (H.singles t)
  have := ((List.take_sublist m (R (t + 1))).filter y3).length_le
  rw [h] at this
  exact this
theorem Rows.count (s : Int) : ∀ t m, m ≤ (R t).length → (xp ((R t).take m)).count s = ((JL R t m).map fun a => (xp (X.take a)).count s).sum
  | 0, m, h => by simp [JL, H.zero]
  | t + 1, m, h => by
    have hp := (List.filter_append_perm y3 ((R (t + 1)).take m)).flatMap_right (·.symbols_)
    have h1 := hp.count_eq s
    rw [List.flatMap_append, List.count_append, H.takeOne, H.takeTwo, Ym] at h1
    have h2 := H.twoLe t m
    have h3 : ((R t).take (2 * u3 R (t + 1) m)).length = 2 * u3 R (t + 1) m := by rw [List.length_take, Nat.min_eq_left h2]
    have h4 := Z6 (l := (R t).take (2 * u3 R (t + 1) m)) (by rw [h3]; omega)
    have h5 := Rows.count s t (2 * u3 R (t + 1) m) h2
    simp only [xp] at h4 h5 ⊢
    rw [← h1, h4, h5]
    simp [JL]
theorem Rows.mono (t m : Nat) : ∀ a, (JL R t (2 * u3 R (t + 1) m)).head? = some a → a ≤ Uu R (t + 1) m := by
  intro a ha
  obtain ⟨b, hb⟩ : ∃ b, u3 R (t + 1) m = b := ⟨_, rfl⟩
  have hbl := H.twoLe t m
  have hTwo := H.takeTwo t m
  have hOne := H.takeOne t m
  rw [hb] at ha hbl hTwo
  -- the single ones among the first 2b
  have hal : ((R t).take (2 * b)).filter y3 = X.take a ∧ a ≤ X.length := by
    cases t with
    | zero =>
      simp only [JL, List.head?_cons, Option.some.injEq] at ha
      subst ha
      rw [H.zero] at hbl ⊢
      exact ⟨List.filter_eq_self.2 fun p hp => H.ones p (List.mem_of_mem_take hp), hbl⟩
    | succ t =>
      simp only [JL, List.head?_cons, Option.some.injEq] at ha
      subst ha
      exact ⟨H.takeOne t (2 * b), H.oneLe t (2 * b)⟩
  refine Nat.le_of_not_lt fun hlt => ?_
  obtain ⟨c, hc⟩ : ∃ c, Uu R (t + 1) m = c := ⟨_, rfl⟩
  rw [hc] at hlt hOne
  have hcx : c < X.length := by omega
  -- the first 2b: the last two
  have hb0 : 0 < b := by
    refine Nat.pos_of_ne_zero fun h0 => ?_
    subst h0
    have := congrArg List.length hal.1
    simp at this; omega
  obtain ⟨T, u, v, hT, hTl⟩ : ∃ T u v, (R t).take (2 * b) = T ++ [u, v] ∧ T.length = 2 * (b - 1) := by
    have hl : ((R t).take (2 * b)).length = 2 * b := by rw [List.length_take, Nat.min_eq_left hbl]
    rcases uI ((R t).take (2 * b)) with h | ⟨T1, v, h⟩
    · rw [h] at hl; simp at hl; omega
    · rcases uI T1 with h' | ⟨T, u, h'⟩
      · rw [h, h'] at hl; simp at hl; omega
      · refine ⟨T, u, v, by rw [h, h']; simp, ?_⟩
        rw [h, h'] at hl; simp only [List.length_append, List.length_cons, List.length_nil] at hl; omega
  have hq : (⟨u.often_ + v.often_, u.symbols_ ++ v.symbols_⟩ : PK) ∈ (R (t + 1)).take m := by
    have : (⟨u.often_ + v.often_, u.symbols_ ++ v.symbols_⟩ : PK) ∈ ((R (t + 1)).take m).filter (fun p => !y3 p) := by
      rw [hTwo, Ym, hT, Ki _ (by omega)]
      simp [prs]
    exact (List.mem_filter.1 this).1
  have hx : X[c] ∈ (R (t + 1)).drop m := by
    have h1 := (QG y3 (R (t + 1)) m).2
    rw [H.singles t, show (((R (t + 1)).take m).filter y3).length = c from hc] at h1
    have : X[c] ∈ ((R (t + 1)).drop m).filter y3 := by
      rw [h1, List.drop_eq_getElem_cons hcx]; exact List.mem_cons_self ..
    exact (List.mem_filter.1 this).1
  have hs := H.sorted (t + 1)
  rw [← List.take_append_drop m (R (t + 1))] at hs
  have g1 := hs.cross _ hq _ hx
  have hx2 : X[c] ∈ T ++ [u, v] := by
    rw [← hT]
    have : X[c] ∈ ((R t).take (2 * b)).filter y3 := by
      rw [hal.1, List.mem_take_iff_getElem]
      exact ⟨c, by omega, rfl⟩
    exact (List.mem_filter.1 this).1
  have hs2 := (H.sorted t).sublist (List.take_sublist (2 * b) (R t))
  rw [hT] at hs2
  have hu : 0 < u.often_ := (H.good t u (List.mem_of_mem_take (by rw [hT]; simp : u ∈ (R t).take (2 * b)))).1
  have g2 : X[c].often_ ≤ v.often_ := by
    rcases List.mem_append.1 hx2 with h | h
    · exact jL.cross (show jL (T ++ [u, v]) from hs2) _ h v (by simp)
    · simp at h
      rcases h with h | h
      · rw [h]; exact jL.cross (A := [u]) (B := [v]) (jL.right (A := T) hs2) u (by simp) v (by simp)
      · rw [h]; exact Int.le_refl _
  simp only at g1
  omega
theorem Rows.levle : ∀ t m, m ≤ (R t).length → ∀ a ∈ JL R t m, a ≤ X.length
  | 0, m, h, a, ha => by simp [JL] at ha; subst ha; rw [H.zero] at h; exact h
  | t + 1, m, h, a, ha => by
    rcases List.mem_cons.1 ha with rfl | ha
    · exact H.oneLe t m
    · exact Rows.levle t _ (H.twoLe t m) a ha
theorem Rows.down : ∀ t m, (JL R t m).Pairwise (fun a b => b ≤ a)
  | 0, m => by simp [JL]
  | t + 1, m => by
    have ih := Rows.down t (2 * u3 R (t + 1) m)
    refine List.pairwise_cons.2 ⟨fun b hb => ?_, ih⟩
    have hm := H.mono t m
    cases hl : JL R t (2 * u3 R (t + 1) m) with
    | nil => rw [hl] at hb; cases hb
    | cons c r =>
      rw [hl] at hb ih hm
      have hc := hm c rfl
      rcases List.mem_cons.1 hb with rfl | hb
      · exact hc
      · exact Nat.le_trans ((List.pairwise_cons.1 ih).1 b hb) hc
end
def UQ : List Nat → Nat
  | [] => 0
  | a :: r => a * 2 ^ r.length + UQ r
theorem Vx {X : List PK} {R : Nat → List PK} (H : Rows X R) : ∀ t m, m ≤ (R t).length → UQ (JL R t m) = m * 2 ^ t
  | 0, m, _ => by simp [JL, UQ]
  | t + 1, m, h => by
    simp only [JL, UQ, XC, Vx H t _ (H.twoLe t m)]
    have := LW R (t + 1) m h
    conv => rhs; rw [← this]
    rw [Nat.pow_succ, Nat.add_mul]
    have : 2 * u3 R (t + 1) m * 2 ^ t = u3 R (t + 1) m * (2 ^ t * 2) := by rw [Nat.mul_comm (2 ^ t) 2, ← Nat.mul_assoc, Nat.mul_comm 2]
    omega
def Qg (as : List Nat) (i : Nat) : Nat := (as.filter fun a => decide (i < a)).length
theorem G4 (as : List Nat) (i : Nat) : Qg as i ≤ as.length := List.length_filter_le ..
theorem BH (n : Nat) : ∀ as : List Nat, as.Pairwise (fun a b => b ≤ a) → (∀ a ∈ as, a ≤ n) → ((List.range n).map fun i => 2 ^ (as.length - Qg as i)).sum + UQ as = n * 2 ^ as.length
  | [], _, _ => by
    have : ∀ m : Nat, ((List.range m).map fun _ => 1).sum = m := by
      intro m
      induction m with
      | zero => rfl
      | succ m ih => rw [List.range_succ, List.map_append, List.sum_append, ih]; simp
    have h2 := this n
    simp only [Qg, UQ, List.filter_nil, List.length_nil, Nat.sub_self, Nat.pow_zero, Nat.add_zero, Nat.mul_one]
    exact h2
  | a :: r, hp, hn => by
    have hp' := List.pairwise_cons.1 hp
    have ih := BH n r hp'.2 (fun b hb => hn b (by simp [hb]))
    have ha := hn a (by simp)
    have step : ((List.range n).map fun i => 2 ^ ((a :: r).length - Qg (a :: r) i)).sum = ((List.range n).map fun i => 2 ^ (r.length - Qg r i)).sum + (n - a) * 2 ^ r.length := by
      have hterm : ∀ i, 2 ^ ((a :: r).length - Qg (a :: r) i) = 2 ^ (r.length - Qg r i) + (if i < a then 0 else 2 ^ r.length) := by
        intro i
        by_cases h : i < a
        · rw [if_pos h, Nat.add_zero]
          congr 1
          have : Qg (a :: r) i = Qg r i + 1 := by simp [Qg, h]
          rw [this, List.length_cons]; omega
        · rw [if_neg h]
          have h0 : Qg r i = 0 := by
            unfold Qg
            rw [List.length_eq_zero_iff, List.filter_eq_nil_iff]
            intro b hb
            have := hp'.1 b hb
            simp; omega
          have h1 : Qg (a :: r) i = 0 := by simp [Qg, h]; intro b hb; have := hp'.1 b hb; omega
          rw [h0, h1, List.length_cons, Nat.sub_zero, Nat.sub_zero, Nat.pow_succ]; omega
      have hsum : ∀ m, m ≤ n → ((List.range m).map fun i => 2 ^ ((a :: r).length - Qg (a :: r) i)).sum = ((List.range m).map fun i => 2 ^ (r.length - Qg r i)).sum + (m - a) * 2 ^ r.length := by
        intro m
        induction m with
        | zero => intro _; simp
        | succ m ih =>
          intro hm
          rw [List.range_succ, List.map_append, List.map_append, List.sum_append, List.sum_append, ih (by omega)]
          simp only [List.map_cons, List.map_nil, List.sum_cons, List.sum_nil, Nat.add_zero, hterm m]
          by_cases h : m < a
          · rw [if_pos h, show m + 1 - a = 0 from by omega, show m - a = 0 from by omega]; omega
          · rw [if_neg h, show m + 1 - a = (m - a) + 1 from by omega, Nat.add_mul]; omega
      exact hsum n (Nat.le_refl _)
    rw [step]
    simp only [UQ, List.length_cons]
    have : (n - a) * 2 ^ r.length + a * 2 ^ r.length = n * 2 ^ r.length := by rw [← Nat.add_mul]; congr 1; omega
    have e2 : n * 2 ^ (r.length + 1) = n * 2 ^ r.length + n * 2 ^ r.length := by rw [Nat.pow_succ, ← Nat.mul_assoc, Nat.mul_two]
    rw [e2]
    have e3 : n * 2 ^ r.length = n * 2 ^ r.length := rfl
    omega
end Go.Pu

set_option maxRecDepth 100000
namespace Go.Pu
open Go Go.Sl Go.Mo
def uO : List Int → Nat → List PK
  | [], _ => []
  | n :: r, i => if 0 < n then ⟨n, [(i : Int)]⟩ :: uO r (i + 1) else uO r (i + 1)
def Kv (n : Int) : Bool := decide (n < 0) || decide (n > 1099511627776)
def L7 (often : List Int) (most : Int) : Prop := 1 ≤ most ∧ most ≤ 15 ∧ often.length ≤ 320 ∧ (∀ n ∈ often, 0 ≤ n ∧ n ≤ 1099511627776) ∧ (uO often 0).length ≤ 2 ^ most.toNat
instance (often : List Int) (most : Int) : Decidable (L7 often most) := by unfold L7; exact inferInstance
def vi (N : Nat) (D : List Int) : List Int := (List.range N).map fun (j : Nat) => ((D.count (j : Int) : Nat) : Int)
theorem jw (N : Nat) (D : List Int) : (vi N D).length = N := by simp [vi]
theorem Zj (N : Nat) : vi N [] = List.replicate N 0 := by
  unfold vi
  apply List.ext_getElem <;> simp
theorem XG {N : Nat} {D : List Int} {j : Nat} (h : j < N) : rd (vi N D) (j : Int) = ((D.count (j : Int) : Nat) : Int) := by
  simp [rd, vi, List.getD, h]
theorem YQ {N : Nat} {D : List Int} {j : Nat} (h : j < N) : (vi N D).set j (((D.count (j : Int) + 1 : Nat)) : Int) = vi N (D ++ [(j : Int)]) := by
  unfold vi
  apply List.ext_getElem
  · simp
  · intro i h1 h2
    simp only [List.length_set, List.length_map, List.length_range] at h1
    rw [List.getElem_set]
    by_cases hij : j = i
    · subst hij; simp
    · rw [if_neg hij]
      have : ¬ ((j : Int) = (i : Int)) := by omega
      simp [List.count_append, List.count_cons, this]
theorem LU (K : Nat) (g : List Int → Int → qN (List Int × Int)) (zs : List PK) (v N : Nat) (hv : v < 1099511627776) (D : List Int) : ∀ (k : Nat) (S T : List Int), (rd zs (v : Int)).symbols_ = S ++ T → T.length < k → (S ++ T).length < 1099511627776 → (D ++ S ++ T).length < 1099511627776 → (∀ s ∈ T, ∃ j : Nat, j < N ∧ s = (j : Int)) →
    qy.l8 K g zs (v : Int) k (vi N (D ++ S)) (S.length : Int) = g (vi N (D ++ S ++ T)) ((v + 1 : Nat) : Int) := by
  intro k
  induction k with
  | zero => intro S T _ h; omega
  | succ k ih =>
    intro S T h1 h2 h3 h5 h4
    rw [qy.l8, h1, qq]
    cases T with
    | nil => rw [if_neg (by simp), qs (by omega) (by omega)]; simp
    | cons s T =>
      obtain ⟨j, hj, rfl⟩ := h4 s (by simp)
      have hc : (D ++ S).count (j : Int) ≤ (D ++ S).length := List.count_le_length
      simp only [List.length_append, List.length_cons] at h2 h3 h5 hc
      rw [if_pos (by simp only [List.length_append, List.length_cons]; omega), y5 _ _ _ rfl, qf, y9 _ _ _ rfl, qC, jw, YI hj, qf, XG hj, qs (by omega) (by omega), Int.toNat_natCast, qC,
        show ((((D ++ S).count (j : Int) : Nat) : Int) + 1) = (((D ++ S).count (j : Int) + 1 : Nat) : Int) from rfl, YQ hj, show qg ((S.length : Int) + 1) = ((S ++ [(j : Int)]).length : Int) from by rw [qs (by omega) (by omega)]; simp]
      have := ih (S ++ [(j : Int)]) T (by rw [h1]; simp) (by omega) (by simp only [List.length_append, List.length_cons, List.length_nil]; omega) (by simp only [List.length_append, List.length_cons, List.length_nil]; omega) (fun s hs => h4 s (by simp [hs]))
      simp only [← List.append_assoc] at this
      rw [this]
      simp
theorem LT (K : Nat) (N M : Nat) (hM : M < 1099511627776) (hMK : M < K) : ∀ (k : Nat) (A B : List PK), B.length < k → (A ++ B).length < 1099511627776 → (xp (A ++ B)).length ≤ M → (∀ s ∈ xp B, ∃ j : Nat, j < N ∧ s = (j : Int)) →
    qy.l7 K (A ++ B) k (vi N (xp A)) (A.length : Int) = .ok (vi N (xp (A ++ B)), 0) := by
  intro k
  induction k with
  | zero => intro A B h; omega
  | succ k ih =>
    intro A B h1 h2 h3 h4
    rw [qy.l7, qq]
    cases B with
    | nil => rw [if_neg (by simp)]; simp
    | cons p B =>
      have h3' := h3
      simp only [List.length_append, List.length_cons] at h1 h2
      simp only [xp, List.flatMap_append, List.flatMap_cons, List.length_append] at h3
      have hp := LU K (qy.l7 K (A ++ p :: B) k) (A ++ p :: B) A.length N (by omega) (xp A) K [] p.symbols_ (by rw [y9 _ _ _ rfl]; rfl) (by omega) (by simp only [List.nil_append]; omega) (by simp only [List.append_nil, List.length_append, xp]; omega)
        (fun s hs => h4 s (by simp only [xp, List.flatMap_cons, List.mem_append]; exact .inl hs))
      simp only [List.append_nil, List.length_nil] at hp
      rw [if_pos (by simp only [List.length_append, List.length_cons]; omega), y5 _ _ _ rfl, qf]
      rw [show ((0 : Nat) : Int) = 0 from rfl] at hp
      rw [hp]
      have := ih (A ++ [p]) B (by omega) (by simp only [List.length_append, List.length_cons, List.length_nil]; omega) (by rw [List.append_assoc]; exact h3') (fun s hs => h4 s (by simp only [xp, List.flatMap_cons, List.mem_append] at hs ⊢; exact .inr hs))
      rw [show xp A ++ p.symbols_ = xp (A ++ [p]) from by simp [xp], show ((A.length + 1 : Nat) : Int) = ((A ++ [p]).length : Int) from by simp, show A ++ p :: B = A ++ [p] ++ B from by simp, this]
theorem XJ : ∀ (l : List Int) (i : Nat), (uO l i).length ≤ l.length
  | [], _ => Nat.le_refl _
  | n :: r, i => by
    unfold uO
    have := XJ r (i + 1)
    split <;> simp <;> omega
theorem LR (K : Nat) (often : List Int) (most : Int) (hl : often.length ≤ 320) : ∀ (k : Nat) (D T : List Int) (O : List PK), D ++ T = often → T.length < k → O.length ≤ D.length →
    qy.l2 K often most k O (D.length : Int) = qy.j3 K often most (O ++ uO T D.length) := by
  intro k
  induction k with
  | zero => intro D T O _ h; omega
  | succ k ih =>
    intro D T O h1 h2 h3
    have hlen : D.length + T.length = often.length := by rw [← h1]; simp
    rw [qy.l2, qq]
    cases T with
    | nil => rw [if_neg (by simp only [List.length_nil] at hlen; omega)]; simp [uO]
    | cons n T =>
      simp only [List.length_cons] at h2 hlen
      have hn : qg ((D.length : Int) + 1) = ((D ++ [n]).length : Int) := by rw [qs (by omega) (by omega)]; simp
      rw [if_pos (by omega), YI (by omega), qf, show rd often (D.length : Int) = n from by rw [← h1]; exact y9 _ _ _ rfl, qC, qq, hn]
      by_cases h0 : n > 0
      · rw [if_pos h0, zh (by simp only [List.length_cons, List.length_nil]; omega), qf, qC]
        have := ih (D ++ [n]) T (O ++ [⟨n, [(D.length : Int)]⟩]) (by rw [← h1]; simp) (by omega) (by simp; exact h3)
        rw [this]
        simp only [uO, List.length_append, List.length_cons, List.length_nil]
        rw [if_pos (by omega)]
        simp
      · rw [if_neg h0, ih (D ++ [n]) T O (by rw [← h1]; simp) (by omega) (by simp; omega)]
        simp only [uO, List.length_append, List.length_cons, List.length_nil]
        rw [if_neg (by omega)]
theorem Vd (K : Nat) (often : List Int) (hl : often.length ≤ 320) : ∀ (k : Nat) (D T : List Int), D ++ T = often → T.length < k →
    (zA.l1 K often k (D.length : Int)).bind (fun x => lt (decide (x ≥ (0 : Int))) fun v => .ok v) = .ok (T.any Kv) := by
  intro k
  induction k with
  | zero => intro D T _ h; omega
  | succ k ih =>
    intro D T h1 h2
    have hlen : D.length + T.length = often.length := by rw [← h1]; simp
    rw [zA.l1, qq]
    cases T with
    | nil => rw [if_neg (by simp only [List.length_nil] at hlen; omega)]; rfl
    | cons n T =>
      simp only [List.length_cons] at h2 hlen
      rw [if_pos (by omega), YI (by omega), qf, show rd often (D.length : Int) = n from by rw [← h1]; exact y9 _ _ _ rfl]
      unfold jN.m
      rw [qC, qN.bind_ok, List.any_cons]
      cases hb : Kv n with
      | true =>
        rw [show (decide (n < 0) || decide (n > 1099511627776)) = true from hb, cond_true, qN.bind_ok, qC]
        simp
      | false =>
        rw [show (decide (n < 0) || decide (n > 1099511627776)) = false from hb, cond_false, show qg ((D.length : Int) + 1) = ((D ++ [n]).length : Int) from by rw [qs (by omega) (by omega)]; simp,
          ih (D ++ [n]) T (by rw [← h1]; simp) (by omega)]
        simp
theorem Bg (often : List Int) : often.any Kv = false ↔ ∀ n ∈ often, 0 ≤ n ∧ n ≤ 1099511627776 := by
  rw [List.any_eq_false]
  constructor
  · intro h n hn
    have := h n hn
    simp only [Kv, Bool.or_eq_true, decide_eq_true_eq] at this
    omega
  · intro h n hn
    have := h n hn
    simp only [Kv, Bool.or_eq_true, decide_eq_true_eq]
    omega
theorem Mp {m : Int} (h1 : 1 ≤ m) (h2 : m ≤ 15) : z8 .i64 1 m = ((2 ^ m.toNat : Nat) : Int) := by
  obtain ⟨n, rfl⟩ : ∃ n : Nat, m = (n : Int) := ⟨m.toNat, by omega⟩
  have hp : 2 ^ n ≤ 2 ^ 15 := Nat.pow_le_pow_right (by decide) (by omega)
  have := jP (a := 1) (n := n) (by omega) (by omega)
  rw [Int.toNat_natCast]
  rw [show ((1 : Nat) : Int) = 1 from rfl] at this
  rw [this, Nat.one_mul]
end Go.Pu

