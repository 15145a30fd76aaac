/- Plain facts on the models: what they compute, and what holds of them; conditions: what each theorem states. -/
import Derived.Test.YtkphnjbmheoifaaMjellj
set_option linter.unusedVariables false
set_option linter.unusedSimpArgs false
/- Plain facts on wrapped numbers, and bits of a text. -/
namespace Go.Pu
open Go Go.Sl

theorem w64_id {x : Int} (h0 : -9223372036854775808 ≤ x) (h1 : x < 9223372036854775808) : w64 x = x := by
  show (if (true && decide (x % 18446744073709551616 ≥ 9223372036854775808)) = true then x % 18446744073709551616 - 18446744073709551616 else x % 18446744073709551616) = x
  split <;> rename_i h <;> simp at h <;> omega
theorem wru64 (x : Int) : wr .u64 x = x % 18446744073709551616 := by
  simp [wr, IntKind.wrap, IntKind.bits, IntKind.signed]
theorem wru32 (x : Int) : wr .u32 x = x % 4294967296 := by
  simp [wr, IntKind.wrap, IntKind.bits, IntKind.signed]
theorem wru8 (x : Int) : wr .u8 x = x % 256 := by
  simp [wr, IntKind.wrap, IntKind.bits, IntKind.signed]
theorem wru64_id {x : Int} (h0 : 0 ≤ x) (h1 : x < 18446744073709551616) : wr .u64 x = x := by rw [wru64]; omega
theorem wru32_id {x : Int} (h0 : 0 ≤ x) (h1 : x < 4294967296) : wr .u32 x = x := by rw [wru32]; omega
theorem wru8_id {x : Int} (h0 : 0 ≤ x) (h1 : x < 256) : wr .u8 x = x := by rw [wru8]; omega
theorem wri64_id {x : Int} (h0 : -9223372036854775808 ≤ x) (h1 : x < 9223372036854775808) : wr .i64 x = x := w64_id h0 h1

theorem ofInt_nat (n a : Nat) : BitVec.ofInt n (a : Int) = BitVec.ofNat n a := by
  apply BitVec.eq_of_toNat_eq
  simp
theorem iand_u64 {a b : Nat} (ha : a < 18446744073709551616) (hb : b < 18446744073709551616) : iand .u64 a b = ((a &&& b : Nat) : Int) := by
  show IntKind.u64.wrap ((BitVec.ofInt 64 (a : Int) &&& BitVec.ofInt 64 (b : Int)).toNat : Int) = _
  simp only [ofInt_nat, BitVec.toNat_and, BitVec.toNat_ofNat]
  rw [Nat.mod_eq_of_lt (by simpa using ha), Nat.mod_eq_of_lt (by simpa using hb)]
  have : a &&& b ≤ a := Nat.and_le_left
  exact wru64_id (by omega) (by omega)
theorem iand_i64 {a b : Nat} (ha : a < 9223372036854775808) (hb : b < 9223372036854775808) : iand .i64 a b = ((a &&& b : Nat) : Int) := by
  show IntKind.i64.wrap ((BitVec.ofInt 64 (a : Int) &&& BitVec.ofInt 64 (b : Int)).toNat : Int) = _
  simp only [ofInt_nat, BitVec.toNat_and, BitVec.toNat_ofNat]
  rw [Nat.mod_eq_of_lt (by omega), Nat.mod_eq_of_lt (by omega)]
  have : a &&& b ≤ a := Nat.and_le_left
  exact w64_id (by omega) (by omega)
theorem ior_u64 {a b : Nat} (ha : a < 18446744073709551616) (hb : b < 18446744073709551616) : ior .u64 a b = ((a ||| b : Nat) : Int) := by
  show IntKind.u64.wrap ((BitVec.ofInt 64 (a : Int) ||| BitVec.ofInt 64 (b : Int)).toNat : Int) = _
  simp only [ofInt_nat, BitVec.toNat_or, BitVec.toNat_ofNat]
  rw [Nat.mod_eq_of_lt (by simpa using ha), Nat.mod_eq_of_lt (by simpa using hb)]
  have : a ||| b < 2 ^ 64 := Nat.or_lt_two_pow (by simpa using ha) (by simpa using hb)
  exact wru64_id (by omega) (by omega)
theorem ior_i64 {a b : Nat} (ha : a < 9223372036854775808) (hb : b < 9223372036854775808) : ior .i64 a b = ((a ||| b : Nat) : Int) := by
  show IntKind.i64.wrap ((BitVec.ofInt 64 (a : Int) ||| BitVec.ofInt 64 (b : Int)).toNat : Int) = _
  simp only [ofInt_nat, BitVec.toNat_or, BitVec.toNat_ofNat]
  rw [Nat.mod_eq_of_lt (by omega), Nat.mod_eq_of_lt (by omega)]
  have : a ||| b < 2 ^ 63 := Nat.or_lt_two_pow (by simpa using ha) (by simpa using hb)
  exact w64_id (by omega) (by omega)
theorem ixor_i64 {a b : Nat} (ha : a < 9223372036854775808) (hb : b < 9223372036854775808) : ixor .i64 a b = ((a ^^^ b : Nat) : Int) := by
  show IntKind.i64.wrap ((BitVec.ofInt 64 (a : Int) ^^^ BitVec.ofInt 64 (b : Int)).toNat : Int) = _
  simp only [ofInt_nat, BitVec.toNat_xor, BitVec.toNat_ofNat]
  rw [Nat.mod_eq_of_lt (by omega), Nat.mod_eq_of_lt (by omega)]
  have : a ^^^ b < 2 ^ 63 := Nat.xor_lt_two_pow (by simpa using ha) (by simpa using hb)
  exact w64_id (by omega) (by omega)
theorem iquo_nat {a b : Nat} (ha : a < 9223372036854775808) (hb : b < 9223372036854775808) : iquo .i64 (a : Int) (b : Int) = ((a / b : Nat) : Int) := by
  unfold iquo
  have h1 : (a : Int).tdiv (b : Int) = ((a / b : Nat) : Int) := by rw [Int.ofNat_tdiv]
  rw [h1]
  have h2 : a / b ≤ a := Nat.div_le_self _ _
  generalize a / b = q at h2 ⊢
  exact w64_id (by omega) (by omega)
theorem irem_nat {a b : Nat} : irem (a : Int) (b : Int) = ((a % b : Nat) : Int) := by
  unfold irem
  rw [Int.ofNat_tmod]
theorem ishr_nat {k : IntKind} {a n : Nat} (hn : n ≤ k.bits) : ishr k (a : Int) (n : Int) = ((a / 2 ^ n : Nat) : Int) := by
  unfold ishr
  rw [Int.toNat_natCast, Nat.min_eq_left hn, Int.fdiv_eq_ediv_of_nonneg _ (Int.pow_nonneg (by decide))]
  simp
theorem ishl_u64 {a n : Nat} (hn : n ≤ 64) (h : a * 2 ^ n < 18446744073709551616) : ishl .u64 (a : Int) (n : Int) = ((a * 2 ^ n : Nat) : Int) := by
  unfold ishl
  rw [Int.toNat_natCast, show min n IntKind.u64.bits = n from Nat.min_eq_left hn]
  have e : (a : Int) * 2 ^ n = ((a * 2 ^ n : Nat) : Int) := by push_cast; rfl
  rw [e]
  exact wru64_id (by omega) (by omega)
theorem ishl_i64 {a n : Nat} (hn : n ≤ 64) (h : a * 2 ^ n < 9223372036854775808) : ishl .i64 (a : Int) (n : Int) = ((a * 2 ^ n : Nat) : Int) := by
  unfold ishl
  rw [Int.toNat_natCast, show min n IntKind.i64.bits = n from Nat.min_eq_left hn]
  have e : (a : Int) * 2 ^ n = ((a * 2 ^ n : Nat) : Int) := by push_cast; rfl
  rw [e]
  exact w64_id (by omega) (by omega)
theorem ishl_u32 {a n : Nat} (hn : n ≤ 32) (h : a * 2 ^ n < 4294967296) : ishl .u32 (a : Int) (n : Int) = ((a * 2 ^ n : Nat) : Int) := by
  unfold ishl
  rw [Int.toNat_natCast, show min n IntKind.u32.bits = n from Nat.min_eq_left hn]
  have e : (a : Int) * 2 ^ n = ((a * 2 ^ n : Nat) : Int) := by push_cast; rfl
  rw [e]
  exact wru32_id (by omega) (by omega)
end Go.Pu

/- Bits of a text: the document's reader. -/
namespace Go.Pu
open Go Go.Sl Go.Mo

/-- Bit number i of a text. -/
def bitB (t : List UInt8) (i : Nat) : Bool := (t.getD (i / 8) 0).toNat.testBit (i % 8)
/-- n bits from bit p on, the lowest first. -/
def num (t : List UInt8) (p : Nat) : Nat → Nat
  | 0 => 0
  | n + 1 => num t p n + (bitB t (p + n)).toNat * 2 ^ n

theorem num_lt (t : List UInt8) (p : Nat) : ∀ n, num t p n < 2 ^ n
  | 0 => by simp [num]
  | n + 1 => by
    have := num_lt t p n
    have h2 : (bitB t (p + n)).toNat ≤ 1 := by cases bitB t (p + n) <;> simp
    have h3 : (bitB t (p + n)).toNat * 2 ^ n ≤ 2 ^ n := by
      calc _ ≤ 1 * 2 ^ n := Nat.mul_le_mul_right _ h2
        _ = 2 ^ n := Nat.one_mul _
    rw [num, Nat.pow_succ]; omega
theorem num_test (t : List UInt8) (p : Nat) : ∀ n j, (num t p n).testBit j = (decide (j < n) && bitB t (p + j))
  | 0, j => by simp [num]
  | n + 1, j => by
    have hlt := num_lt t p n
    have e : num t p (n + 1) = 2 ^ n * (bitB t (p + n)).toNat + num t p n := by rw [num, Nat.mul_comm]; omega
    rw [e, Nat.testBit_two_pow_mul_add _ hlt]
    split
    · rename_i h
      rw [num_test t p n j]
      have : j < n + 1 := by omega
      simp [h, this]
    · rename_i h
      by_cases hj : j = n
      · subst hj; simp
        cases bitB t (p + j) <;> simp
      · have h1 : ¬ j < n + 1 := by omega
        simp [h1]
        cases hb : bitB t (p + n)
        · simp
        · have : (1 : Nat) < 2 ^ (j - n) := Nat.one_lt_two_pow (by omega)
          simpa using Nat.testBit_lt_two_pow this

/-- The bits, or why not. -/
def sBits (t : List UInt8) (p n : Nat) : Except Int (Nat × Nat) := if p + n ≤ 8 * t.length then .ok (num t p n, p + n) else .error 2

theorem bit_of {t : List UInt8} {i : Nat} (h : i / 8 < t.length) : ((rd t ((i / 8 : Nat) : Int)).toNat / 2 ^ (i % 8)) % 2 = (bitB t i).toNat := by
  unfold bitB rd
  rw [Int.toNat_natCast, Nat.testBit_eq_decide_div_mod_eq]
  have : (t.getD (i / 8) default) = t.getD (i / 8) 0 := rfl
  rw [this]
  generalize (t.getD (i / 8) 0).toNat / 2 ^ (i % 8) = q
  rcases Nat.mod_two_eq_zero_or_one q with h | h <;> rw [h] <;> rfl

theorem refBits_l1 (K : Nat) (t : List UInt8) (p n : Nat) (hn : n ≤ 32) (hp : p + n ≤ 8 * t.length) (hl : t.length < 140737488355328) : ∀ j k, j ≤ n → j < k →
    mortiseref05_Reader_Bits.l1 K ⟨t, p⟩ n k (num t p (n - j)) ((n - j : Nat) : Int) = .ok ((num t p n : Int), 0, ((p + n : Nat) : Int))
  | _, 0, _, h => by omega
  | 0, k + 1, _, _ => by
    rw [mortiseref05_Reader_Bits.l1]
    have h1 : decide (((n - 0 : Nat) : Int) < (n : Int)) = false := by simp
    rw [h1]
    simp only [cond_false, mortiseref05_Reader_Bits.j2, Nat.sub_zero]
    rw [w64_id (by omega) (by omega)]
    push_cast; rfl
  | j + 1, k + 1, hj, hk => by
    rw [mortiseref05_Reader_Bits.l1]
    have h1 : decide (((n - (j + 1) : Nat) : Int) < (n : Int)) = true := by simp; omega
    rw [h1]
    simp only [cond_true, lt_eq]
    generalize hi : n - (j + 1) = i
    have hin : i < n := by omega
    have e1 : w64 ((p : Int) + (i : Int)) = ((p + i : Nat) : Int) := by rw [w64_id (by omega) (by omega)]; push_cast; rfl
    rw [e1]
    have e2 : iquo .i64 ((p + i : Nat) : Int) (8 : Int) = (((p + i) / 8 : Nat) : Int) := iquo_nat (b := 8) (by omega) (by omega)
    have e3 : irem ((p + i : Nat) : Int) (8 : Int) = (((p + i) % 8 : Nat) : Int) := irem_nat (b := 8)
    have hb : (p + i) / 8 < t.length := by omega
    have hm : (p + i) % 8 < 8 := Nat.mod_lt _ (by decide)
    rw [e2, e3]
    have e4 : inb (((p + i) / 8 : Nat) : Int) t.length = true := by simp [inb]; omega
    have e5 : wr .u64 (((p + i) % 8 : Nat) : Int) = (((p + i) % 8 : Nat) : Int) := wru64_id (by omega) (by omega)
    have e6 : wr .u32 ((rd t (((p + i) / 8 : Nat) : Int)).toNat : Int) = ((rd t (((p + i) / 8 : Nat) : Int)).toNat : Int) := by
      have := (rd t (((p + i) / 8 : Nat) : Int)).toNat_lt
      exact wru32_id (by omega) (by omega)
    have e7 : wr .u64 ((i : Nat) : Int) = ((i : Nat) : Int) := wru64_id (by omega) (by omega)
    rw [e4, e5, e6, e7]
    have e8 : decide ((0 : Int) ≤ (((p + i) % 8 : Nat) : Int)) = true := decide_eq_true (Int.natCast_nonneg _)
    have e9 : decide ((0 : Int) ≤ ((i : Nat) : Int)) = true := decide_eq_true (Int.natCast_nonneg _)
    rw [e8, e9]
    simp only [chk_true]
    rw [ishr_nat (k := .u32) (n := (p + i) % 8) (by show _ ≤ 32; omega)]
    have e10 : irem (((rd t (((p + i) / 8 : Nat) : Int)).toNat / 2 ^ ((p + i) % 8) : Nat) : Int) (2 : Int) = ((bitB t (p + i)).toNat : Int) := by
      rw [show (2 : Int) = ((2 : Nat) : Int) from rfl, irem_nat, bit_of hb]
    rw [e10]
    have hb1 : (bitB t (p + i)).toNat ≤ 1 := by cases bitB t (p + i) <;> simp
    have hpow : 2 ^ i ≤ 2 ^ 31 := Nat.pow_le_pow_right (by decide) (by omega)
    have hmul : (bitB t (p + i)).toNat * 2 ^ i ≤ 1 * 2 ^ i := Nat.mul_le_mul_right _ hb1
    have hnum := num_lt t p i
    rw [ishl_u32 (by omega) (by omega)]
    have e11 : wr .u32 ((num t p i : Int) + (((bitB t (p + i)).toNat * 2 ^ i : Nat) : Int)) = (num t p (i + 1) : Int) := by
      rw [wru32_id (by omega) (by omega), num]; push_cast; rfl
    have e12 : w64 ((i : Int) + 1) = ((i + 1 : Nat) : Int) := by rw [w64_id (by omega) (by omega)]; push_cast; rfl
    rw [e11, e12]
    have := refBits_l1 K t p n hn hp hl j k (by omega) (by omega)
    rw [show n - j = i + 1 by omega] at this
    exact this

theorem refBits (K : Nat) (t : List UInt8) (p n : Nat) (hn : n ≤ 32) (hp : p ≤ 8 * t.length) (hl : t.length < 140737488355328) (hK : 32 < K) :
    mortiseref05_Reader_Bits.m K ⟨t, p⟩ n = match sBits t p n with
      | .ok (v, q) => .ok ((v : Int), 0, (q : Int))
      | .error e => .ok (0, e, (p : Int)) := by
  unfold mortiseref05_Reader_Bits.m sBits
  have h1 : (decide ((n : Int) < 0) || decide ((n : Int) > 32)) = false := by simp; omega
  rw [h1, cond_false]
  have e1 : w64 (8 * (t.length : Int)) = ((8 * t.length : Nat) : Int) := by rw [w64_id (by omega) (by omega)]; push_cast; rfl
  have e2 : w64 (((8 * t.length : Nat) : Int) - (p : Int)) = ((8 * t.length - p : Nat) : Int) := by rw [w64_id (by omega) (by omega)]; omega
  simp only [e1, e2]
  by_cases hc : p + n ≤ 8 * t.length
  · have h2 : decide ((n : Int) > ((8 * t.length - p : Nat) : Int)) = false := by simp; omega
    rw [h2, cond_false, if_pos hc]
    have := refBits_l1 K t p n hn hc hl n K (Nat.le_refl _) (by omega)
    rw [Nat.sub_self] at this
    exact this
  · have h2 : decide ((n : Int) > ((8 * t.length - p : Nat) : Int)) = true := by simp; omega
    rw [h2, cond_true, if_neg hc]
end Go.Pu

/- Bits of a text: the program's reader. -/
namespace Go.Pu
open Go Go.Sl Go.Mo

theorem num_step (t : List UInt8) (f i : Nat) : num t (8 * f) (8 * (i + 1)) = num t (8 * f) (8 * i) ||| ((t.getD (f + i) 0).toNat * 2 ^ (8 * i)) := by
  apply Nat.eq_of_testBit_eq
  intro j
  rw [Nat.testBit_or, num_test, num_test, Nat.testBit_mul_two_pow]
  have hb : ∀ k, k < 8 → bitB t (8 * (f + i) + k) = (t.getD (f + i) 0).toNat.testBit k := fun k hk => by
    unfold bitB
    rw [show (8 * (f + i) + k) / 8 = f + i by omega, show (8 * (f + i) + k) % 8 = k by omega]
  have hz : ∀ k, 8 ≤ k → (t.getD (f + i) 0).toNat.testBit k = false := fun k hk => by
    refine Nat.testBit_lt_two_pow ?_
    have := (t.getD (f + i) 0).toNat_lt
    have h2 : 2 ^ 8 ≤ 2 ^ k := Nat.pow_le_pow_right (by decide) hk
    omega
  by_cases h1 : j < 8 * i
  · have h2 : j < 8 * (i + 1) := by omega
    have h3 : ¬ 8 * i ≤ j := by omega
    simp [h1, h2, h3]
  · by_cases h2 : j < 8 * (i + 1)
    · have h3 : 8 * i ≤ j := by omega
      simp only [h1, h2, h3, decide_true, decide_false, Bool.true_and, Bool.false_and, Bool.false_or]
      rw [← hb (j - 8 * i) (by omega)]
      congr 1; omega
    · have h3 : 8 * i ≤ j := by omega
      simp only [h1, h2, h3, decide_true, decide_false, Bool.true_and, Bool.false_and, Bool.false_or]
      exact (hz _ (by omega)).symm

theorem progBits_l1 (K : Nat) (t : List UInt8) (p n m : Nat) (hm : m = (p + n + 7) / 8 - p / 8) (hn : n ≤ 32) (hp : p + n ≤ 8 * t.length) (hl : t.length < 140737488355328) : ∀ j k, j ≤ m → j < k →
    bits_Reader_Bits.l1 K ⟨⟨p⟩, t⟩ n ((p / 8 : Nat) : Int) k (num t (8 * (p / 8)) (8 * (m - j)) : Int) ((m - j : Nat) : Int) = bits_Reader_Bits.j2 K ⟨⟨p⟩, t⟩ n (num t (8 * (p / 8)) (8 * m) : Int)
  | _, 0, _, h => by omega
  | 0, k + 1, _, _ => by
    rw [bits_Reader_Bits.l1]
    simp only [Nat.sub_zero]
    have e1 : w64 (((p / 8 : Nat) : Int) + (m : Int)) = ((p / 8 + m : Nat) : Int) := by rw [w64_id (by omega) (by omega)]; push_cast; rfl
    have e2 : w64 (8 * ((p / 8 + m : Nat) : Int)) = ((8 * (p / 8 + m) : Nat) : Int) := by rw [w64_id (by omega) (by omega)]; push_cast; rfl
    have e3 : w64 ((p : Int) + (n : Int)) = ((p + n : Nat) : Int) := by rw [w64_id (by omega) (by omega)]; push_cast; rfl
    simp only [e1, e2, e3]
    have h1 : decide (((8 * (p / 8 + m) : Nat) : Int) < ((p + n : Nat) : Int)) = false := by simp only [decide_eq_false_iff_not]; omega
    rw [h1, cond_false]
  | j + 1, k + 1, hj, hk => by
    rw [bits_Reader_Bits.l1]
    generalize hi : m - (j + 1) = i
    have him : i < m := by omega
    have e1 : w64 (((p / 8 : Nat) : Int) + (i : Int)) = ((p / 8 + i : Nat) : Int) := by rw [w64_id (by omega) (by omega)]; push_cast; rfl
    have e2 : w64 (8 * ((p / 8 + i : Nat) : Int)) = ((8 * (p / 8 + i) : Nat) : Int) := by rw [w64_id (by omega) (by omega)]; push_cast; rfl
    have e3 : w64 ((p : Int) + (n : Int)) = ((p + n : Nat) : Int) := by rw [w64_id (by omega) (by omega)]; push_cast; rfl
    simp only [e1, e2, e3]
    have h1 : decide (((8 * (p / 8 + i) : Nat) : Int) < ((p + n : Nat) : Int)) = true := by simp only [decide_eq_true_eq]; omega
    have h2 : inb ((p / 8 + i : Nat) : Int) t.length = true := by simp only [inb, decide_eq_true_eq]; omega
    have e4 : w64 (8 * (i : Int)) = ((8 * i : Nat) : Int) := by rw [w64_id (by omega) (by omega)]; push_cast; rfl
    have h3 : decide ((0 : Int) ≤ ((8 * i : Nat) : Int)) = true := decide_eq_true (Int.natCast_nonneg _)
    rw [h1, h2, e4, h3]
    simp only [cond_true, chk_true, lt_eq]
    have hby : (rd t ((p / 8 + i : Nat) : Int)) = t.getD (p / 8 + i) 0 := by simp only [rd, Int.toNat_natCast]; rfl
    rw [hby]
    have hlt := (t.getD (p / 8 + i) 0).toNat_lt
    have h8 : 8 * i ≤ 32 := by omega
    have hpow : 2 ^ (8 * i) ≤ 2 ^ 32 := Nat.pow_le_pow_right (by decide) h8
    have hmul : (t.getD (p / 8 + i) 0).toNat * 2 ^ (8 * i) ≤ 255 * 2 ^ (8 * i) := Nat.mul_le_mul_right _ (by omega)
    have hnum := num_lt t (8 * (p / 8)) (8 * i)
    rw [wru64_id (x := ((t.getD (p / 8 + i) 0).toNat : Int)) (by omega) (by omega), ishl_u64 (by omega) (by omega), ior_u64 (by omega) (by omega), ← num_step]
    have e5 : w64 ((i : Int) + 1) = ((i + 1 : Nat) : Int) := by rw [w64_id (by omega) (by omega)]; push_cast; rfl
    rw [e5]
    have := progBits_l1 K t p n m hm hn hp hl j k (by omega) (by omega)
    rw [show m - j = i + 1 by omega] at this
    exact this

theorem num_cut (t : List UInt8) (p n m : Nat) (hm : p + n ≤ 8 * (p / 8 + m)) : (num t (8 * (p / 8)) (8 * m) / 2 ^ (p % 8)) % 2 ^ n = num t p n := by
  apply Nat.eq_of_testBit_eq
  intro j
  rw [Nat.testBit_mod_two_pow, Nat.testBit_div_two_pow, num_test, num_test]
  by_cases h1 : j < n
  · have h2 : j + p % 8 < 8 * m := by omega
    simp only [h1, h2, decide_true, Bool.true_and]
    congr 1; omega
  · simp [h1]

theorem progBits (K : Nat) (t : List UInt8) (p n : Nat) (hn : n ≤ 32) (hp : p ≤ 8 * t.length) (hl : t.length < 140737488355328) (hK : 32 < K) :
    bits_Reader_Bits.m K ⟨⟨p⟩, t⟩ n = match sBits t p n with
      | .ok (v, q) => .ok ((v : Int), 0, (q : Int))
      | .error e => .ok (0, e, (p : Int)) := by
  unfold bits_Reader_Bits.m sBits
  have h1 : (decide ((n : Int) < 0) || decide ((n : Int) > 32)) = false := by simp; omega
  simp only [lt_eq]
  rw [h1, cond_false]
  have e1 : w64 (8 * (t.length : Int)) = ((8 * t.length : Nat) : Int) := by rw [w64_id (by omega) (by omega)]; push_cast; rfl
  have e2 : w64 (((8 * t.length : Nat) : Int) - (p : Int)) = ((8 * t.length - p : Nat) : Int) := by rw [w64_id (by omega) (by omega)]; omega
  simp only [e1, e2]
  by_cases hc : p + n ≤ 8 * t.length
  · have h2 : decide ((n : Int) > ((8 * t.length - p : Nat) : Int)) = false := by simp only [decide_eq_false_iff_not]; omega
    rw [h2, cond_false, if_pos hc]
    have e3 : iquo .i64 (p : Int) 8 = ((p / 8 : Nat) : Int) := iquo_nat (b := 8) (by omega) (by omega)
    rw [e3]
    have := progBits_l1 K t p n _ rfl hn hc hl ((p + n + 7) / 8 - p / 8) K (Nat.le_refl _) (by omega)
    rw [Nat.sub_self] at this
    refine this.trans ?_
    unfold bits_Reader_Bits.j2
    have e4 : iand .i64 (p : Int) 7 = ((p % 8 : Nat) : Int) := by
      rw [show (7 : Int) = ((7 : Nat) : Int) from rfl, iand_i64 (by omega) (by omega), show (7 : Nat) = 2 ^ 3 - 1 from rfl, Nat.and_two_pow_sub_one_eq_mod]
    simp only [e4, lt_eq]
    have h3 : decide ((0 : Int) ≤ ((p % 8 : Nat) : Int)) = true := decide_eq_true (Int.natCast_nonneg _)
    have h4 : decide ((0 : Int) ≤ ((n : Nat) : Int)) = true := decide_eq_true (Int.natCast_nonneg _)
    rw [h3, h4]
    simp only [chk_true]
    have hcut := num_cut t p n ((p + n + 7) / 8 - p / 8) (by omega)
    generalize hm : (p + n + 7) / 8 - p / 8 = m at hcut ⊢
    have hbig := num_lt t (8 * (p / 8)) (8 * m)
    have hpow : 2 ^ (8 * m) ≤ 2 ^ 40 := Nat.pow_le_pow_right (by decide) (by omega)
    rw [ishr_nat (k := .u64) (n := p % 8) (by show _ ≤ 64; omega)]
    have hq : num t (8 * (p / 8)) (8 * m) / 2 ^ (p % 8) ≤ num t (8 * (p / 8)) (8 * m) := Nat.div_le_self _ _
    generalize num t (8 * (p / 8)) (8 * m) / 2 ^ (p % 8) = q at hcut hq ⊢
    have hn2 : 2 ^ n ≤ 2 ^ 32 := Nat.pow_le_pow_right (by decide) hn
    have hn0 : 0 < 2 ^ n := Nat.two_pow_pos n
    have e5 : ishl .u64 (1 : Int) (n : Int) = ((1 * 2 ^ n : Nat) : Int) := ishl_u64 (a := 1) (by omega) (by omega)
    have e6 : wr .u64 (ishl .u64 (1 : Int) (n : Int) - 1) = ((2 ^ n - 1 : Nat) : Int) := by
      rw [e5, wru64_id (by omega) (by omega)]; omega
    rw [e6, iand_u64 (by omega) (by omega), Nat.and_two_pow_sub_one_eq_mod, hcut]
    have hnum := num_lt t p n
    rw [wru32_id (by omega) (by omega), w64_id (by omega) (by omega)]
    push_cast; rfl
  · have h2 : decide ((n : Int) > ((8 * t.length - p : Nat) : Int)) = true := by simp only [decide_eq_true_eq]; omega
    rw [h2, cond_true, if_neg hc]
end Go.Pu

/- Lengths of codes: counted and checked. -/
namespace Go.Pu
open Go Go.Sl Go.Mo

def inR (x : Int) : Prop := 0 ≤ x ∧ x ≤ 15
instance (x : Int) : Decidable (inR x) := inferInstanceAs (Decidable (_ ∧ _))
def okL (l : List Int) : Prop := l.length ≤ 320 ∧ ∀ x ∈ l, inR x
instance (l : List Int) : Decidable (okL l) := inferInstanceAs (Decidable (_ ∧ _))
/-- How many have each length. -/
def cs (l : List Int) : List Int := (List.range 16).map fun (j : Nat) => ((l.count (j : Int) : Nat) : Int)
def cs0 (l : List Int) : List Int := (List.range 16).map fun (j : Nat) => if j = 0 then 0 else ((l.count (j : Int) : Nat) : Int)
theorem cs_len (l : List Int) : (cs l).length = 16 := by simp [cs]
theorem cs0_len (l : List Int) : (cs0 l).length = 16 := by simp [cs0]
theorem rd_nat {α : Type} [Inhabited α] {l : List α} {i : Nat} (h : i < l.length) : rd l (i : Int) = l[i] := by
  simp [rd, List.getD, List.getElem?_eq_getElem h]
theorem inb_nat {i n : Nat} (h : i < n) : inb (i : Int) n = true := by simp only [inb, decide_eq_true_eq]; omega
theorem take_succ' {α : Type} {l : List α} {i : Nat} (h : i < l.length) : l.take (i + 1) = l.take i ++ [l[i]] := List.take_succ_eq_append_getElem h
theorem drop_cons' {α : Type} {l : List α} {i : Nat} (h : i < l.length) : l.drop i = l[i] :: l.drop (i + 1) := List.drop_eq_getElem_cons h

theorem cs_step {l : List Int} {i : Nat} (h : i < l.length) (hi : inR l[i]) (hl : l.length ≤ 320) :
    (cs (l.take i)).set (Int.toNat l[i]) (w64 ((rd (cs (l.take i)) l[i]) + 1)) = cs (l.take (i + 1)) := by
  obtain ⟨h0, h1⟩ := hi
  obtain ⟨x, hx⟩ := Int.eq_ofNat_of_zero_le h0
  have hx16 : x < 16 := by omega
  have hrd : rd (cs (l.take i)) l[i] = (((l.take i).count (x : Int) : Nat) : Int) := by
    rw [hx, rd_nat (by rw [cs_len]; exact hx16)]; simp [cs]
  have hc : (l.take i).count (x : Int) ≤ 320 := Nat.le_trans List.count_le_length (by simp; omega)
  rw [hrd, w64_id (by omega) (by omega), hx]
  apply List.ext_getElem
  · simp [cs]
  · intro j h1 h2
    simp only [List.length_set, cs_len] at h1
    rw [List.getElem_set]
    simp only [Int.toNat_natCast, take_succ' h]
    by_cases hj : x = j
    · subst hj
      simp [cs, List.count_append, hx]
    · have : ¬ ((x : Int) = (j : Int)) := by omega
      simp [cs, List.count_append, hj, hx, List.count_cons, this]

theorem count_l1 (K : Nat) (l : List Int) (hl : l.length ≤ 320) : ∀ j k i, i + j = l.length → j < k → (∀ x ∈ l.drop i, inR x) →
    huff_count.l1 K l k (cs (l.take i)) (i : Int) = huff_count.j2 K (cs l)
  | _, 0, _, _, h, _ => by omega
  | 0, k + 1, i, hi, _, _ => by
    rw [huff_count.l1]
    have h1 : decide ((i : Int) < (l.length : Int)) = false := by simp only [decide_eq_false_iff_not]; omega
    rw [h1, cond_false, List.take_of_length_le (by omega)]
  | j + 1, k + 1, i, hi, hk, hr => by
    rw [huff_count.l1]
    have hil : i < l.length := by omega
    have h1 : decide ((i : Int) < (l.length : Int)) = true := by simp only [decide_eq_true_eq]; omega
    rw [h1, cond_true, inb_nat hil]
    simp only [chk_true, lt_eq, rd_nat hil]
    rw [drop_cons' hil] at hr
    have hin := hr l[i] List.mem_cons_self
    have h2 : (decide (l[i] < 0) || decide (l[i] > 15)) = false := by obtain ⟨a, b⟩ := hin; simp; omega
    have h3 : inb l[i] 16 = true := by obtain ⟨a, b⟩ := hin; simp only [inb, decide_eq_true_eq]; omega
    rw [h2, cond_false, h3]
    simp only [chk_true]
    rw [cs_step hil hin hl]
    have e : w64 ((i : Int) + 1) = ((i + 1 : Nat) : Int) := by rw [w64_id (by omega) (by omega)]; push_cast; rfl
    rw [e]
    exact count_l1 K l hl j k (i + 1) (by omega) (by omega) (fun x hx => hr x (List.mem_cons_of_mem _ hx))
theorem count_bad (K : Nat) (l : List Int) (hl : l.length ≤ 320) : ∀ j k i c, i + j = l.length → j < k → c.length = 16 → (∃ x ∈ l.drop i, ¬ inR x) →
    ∃ c', huff_count.l1 K l k c (i : Int) = .ok (c', false)
  | _, 0, _, _, _, h, _, _ => by omega
  | 0, k + 1, i, c, hi, _, _, ⟨x, hx, _⟩ => by
    rw [List.drop_eq_nil_of_le (by omega)] at hx; cases hx
  | j + 1, k + 1, i, c, hi, hk, hc, ⟨x, hx, hn⟩ => by
    rw [huff_count.l1]
    have hil : i < l.length := by omega
    have h1 : decide ((i : Int) < (l.length : Int)) = true := by simp only [decide_eq_true_eq]; omega
    rw [h1, cond_true, inb_nat hil]
    simp only [chk_true, lt_eq, rd_nat hil]
    by_cases hin : inR l[i]
    · have h2 : (decide (l[i] < 0) || decide (l[i] > 15)) = false := by obtain ⟨a, b⟩ := hin; simp; omega
      have h3 : inb l[i] 16 = true := by obtain ⟨a, b⟩ := hin; simp only [inb, decide_eq_true_eq]; omega
      rw [h2, cond_false, h3]
      simp only [chk_true]
      have e : w64 ((i : Int) + 1) = ((i + 1 : Nat) : Int) := by rw [w64_id (by omega) (by omega)]; push_cast; rfl
      rw [e]
      refine count_bad K l hl j k (i + 1) _ (by omega) (by omega) (by simp [hc]) ⟨x, ?_, hn⟩
      rw [drop_cons' hil] at hx
      rcases List.mem_cons.1 hx with rfl | hx
      · exact absurd hin hn
      · exact hx
    · have h2 : (decide (l[i] < 0) || decide (l[i] > 15)) = true := by
        unfold inR at hin; simp; omega
      rw [h2, cond_true]
      exact ⟨_, rfl⟩

theorem progCount (K : Nat) (l : List Int) (hK : 320 < K) : (okL l → huff_count.m K l = .ok (cs0 l, true)) ∧ (¬ okL l → ∃ c, huff_count.m K l = .ok (c, false)) := by
  unfold huff_count.m
  have e0 : cs (l.take 0) = List.replicate 16 (0 : Int) := by simp [cs]; rfl
  constructor
  · intro ⟨h1, h2⟩
    have h3 : decide ((l.length : Int) > 320) = false := by simp only [decide_eq_false_iff_not]; omega
    rw [h3, cond_false, ← e0]
    have := count_l1 K l h1 l.length K 0 (by omega) (by omega) (by simpa using h2)
    rw [show ((0 : Nat) : Int) = 0 from rfl] at this
    rw [this, huff_count.j2]
    simp only [lt_eq]
    rfl
  · intro hn
    by_cases h1 : l.length ≤ 320
    · have h3 : decide ((l.length : Int) > 320) = false := by simp only [decide_eq_false_iff_not]; omega
      rw [h3, cond_false]
      have hb : ∃ x ∈ l.drop 0, ¬ inR x := by
        apply Classical.byContradiction
        intro hno
        refine hn ⟨h1, fun x hx => Classical.byContradiction fun hx2 => hno ⟨x, by simpa using hx, hx2⟩⟩
      obtain ⟨c, hc⟩ := count_bad K l h1 l.length K 0 (List.replicate 16 0) (by omega) (by omega) (by simp) hb
      exact ⟨c, hc⟩
    · have h3 : decide ((l.length : Int) > 320) = true := by simp only [decide_eq_true_eq]; omega
      rw [h3, cond_true]
      exact ⟨_, rfl⟩
end Go.Pu

/- Lengths of codes: checked, by the program and by the document. -/
namespace Go.Pu
open Go Go.Sl Go.Mo

def c0 (l : List Int) (n : Nat) : Nat := if n = 0 then 0 else l.count (n : Int)
/-- The sum of the parts that the codes of the lengths below i take, of 2^15. -/
def ks (l : List Int) : Nat → Nat
  | 0 => 0
  | i + 1 => ks l i + c0 l i * 2 ^ (15 - i)
def nz (l : List Int) : List Int := l.filter fun x => decide (0 < x)
def sCheck (l : List Int) : Int := if okL l then (if nz l = [] ∨ nz l = [1] ∨ ks l 16 = 32768 then 0 else 3) else 1

theorem c0_le {l : List Int} (h : l.length ≤ 320) (n : Nat) : c0 l n ≤ 320 := by
  unfold c0
  split
  · omega
  · exact Nat.le_trans List.count_le_length h
theorem ks_le {l : List Int} (h : l.length ≤ 320) : ∀ i, ks l i ≤ i * 10485760
  | 0 => by simp [ks]
  | i + 1 => by
    have h1 := ks_le h i
    have h2 : c0 l i * 2 ^ (15 - i) ≤ 320 * 2 ^ 15 := Nat.mul_le_mul (c0_le h i) (Nat.pow_le_pow_right (by decide) (by omega))
    rw [ks]; omega
theorem rd_cs0 {l : List Int} {n : Nat} (h : n < 16) : rd (cs0 l) (n : Int) = (c0 l n : Int) := by
  rw [rd_nat (by rw [cs0_len]; exact h)]
  simp only [cs0, c0, List.getElem_map, List.getElem_range]
  split <;> rfl

theorem progCheck_l1 (K : Nat) (l : List Int) (hl : l.length ≤ 320) : ∀ j k, j ≤ 16 → j < k → huff_Check.l1 K (cs0 l) k (ks l (16 - j) : Int) ((16 - j : Nat) : Int) = huff_Check.j2 K (cs0 l) (ks l 16 : Int)
  | _, 0, _, h => by omega
  | 0, k + 1, _, _ => by
    rw [huff_Check.l1]
    rfl
  | j + 1, k + 1, hj, hk => by
    rw [huff_Check.l1]
    generalize hi : 16 - (j + 1) = i
    have hil : i < 16 := by omega
    have h1 : decide ((i : Int) < 16) = true := by simp only [decide_eq_true_eq]; omega
    have h2 : decide ((0 : Int) ≤ (i : Int)) = true := decide_eq_true (Int.natCast_nonneg _)
    rw [h1, cond_true, inb_nat hil, h2]
    simp only [chk_true, lt_eq, rd_cs0 hil]
    have e1 : ishr .i64 (32768 : Int) (i : Int) = ((2 ^ (15 - i) : Nat) : Int) := by
      rw [show (32768 : Int) = ((32768 : Nat) : Int) from rfl, ishr_nat (k := .i64) (by show i ≤ 64; omega)]
      congr 1
      rw [show (32768 : Nat) = 2 ^ (15 - i) * 2 ^ i by rw [← Nat.pow_add, show 15 - i + i = 15 by omega], Nat.mul_div_cancel _ (Nat.two_pow_pos i)]
    have hb := ks_le hl i
    have hb2 := ks_le hl (i + 1)
    have hm : c0 l i * 2 ^ (15 - i) ≤ 320 * 2 ^ 15 := Nat.mul_le_mul (c0_le hl i) (Nat.pow_le_pow_right (by decide) (by omega))
    have e2 : w64 ((c0 l i : Int) * ((2 ^ (15 - i) : Nat) : Int)) = ((c0 l i * 2 ^ (15 - i) : Nat) : Int) := by
      rw [← Int.natCast_mul, w64_id (by omega) (by omega)]
    have e3 : w64 ((ks l i : Int) + ((c0 l i * 2 ^ (15 - i) : Nat) : Int)) = (ks l (i + 1) : Int) := by
      have e : (ks l i : Int) + ((c0 l i * 2 ^ (15 - i) : Nat) : Int) = (ks l (i + 1) : Int) := by rw [ks]; push_cast; rfl
      rw [e, w64_id (by omega) (by omega)]
    have e4 : w64 ((i : Int) + 1) = ((i + 1 : Nat) : Int) := by rw [w64_id (by omega) (by omega)]; push_cast; rfl
    simp only [e1, e2, e3, e4]
    have := progCheck_l1 K l hl j k (by omega) (by omega)
    rw [show 16 - j = i + 1 by omega] at this
    exact this

theorem nz_cons (x : Int) (l : List Int) : nz (x :: l) = if 0 < x then x :: nz l else nz l := by
  simp [nz, List.filter_cons]
theorem c0_cons (x : Int) (l : List Int) (n : Nat) : c0 (x :: l) n = c0 l n + (if 0 < n ∧ x = n then 1 else 0) := by
  unfold c0
  by_cases h : n = 0
  · subst h; simp
  · have : 0 < n := by omega
    simp only [h, if_false, List.count_cons, this, true_and]
    by_cases hx : x = (n : Int) <;> simp [hx]
theorem ks_cons (x : Int) (l : List Int) : ∀ i, ks (x :: l) i = ks l i + (if 0 < x ∧ x < i then 2 ^ (15 - x.toNat) else 0)
  | 0 => by simp [ks]; omega
  | i + 1 => by
    rw [ks, ks, ks_cons x l i, c0_cons]
    by_cases hx : x = (i : Int)
    · subst hx
      by_cases h0 : 0 < i
      · have h1 : (0 : Int) < (i : Int) := by omega
        have h2 : ¬ ((i : Int) < (i : Int)) := by omega
        have h3 : (i : Int) < ((i + 1 : Nat) : Int) := by omega
        simp only [h0, h1, h2, h3, and_true, and_false, if_true, if_false, Int.toNat_natCast]
        rw [Nat.add_mul, Nat.one_mul]; omega
      · have : i = 0 := by omega
        subst this; simp
    · have h1 : ¬ (0 < i ∧ x = (i : Int)) := fun h => hx h.2
      rw [if_neg h1]
      by_cases h2 : 0 < x ∧ x < (i : Int)
      · have h3 : 0 < x ∧ x < ((i + 1 : Nat) : Int) := by omega
        rw [if_pos h2, if_pos h3]; simp only [Nat.add_zero]; omega
      · have h3 : ¬ (0 < x ∧ x < ((i + 1 : Nat) : Int)) := by omega
        rw [if_neg h2, if_neg h3]; simp only [Nat.add_zero]
theorem okL_cons {x : Int} {l : List Int} (h : okL (x :: l)) : inR x ∧ okL l := ⟨h.2 x (by simp), by have := h.1; simp at this; omega, fun y hy => h.2 y (by simp [hy])⟩
theorem ks_zero : ∀ {l : List Int}, okL l → (ks l 16 = 0 ↔ nz l = [])
  | [], _ => by simp [nz]; rfl
  | x :: l, h => by
    obtain ⟨⟨hx0, hx1⟩, hl⟩ := okL_cons h
    rw [ks_cons, nz_cons]
    by_cases hx : 0 < x
    · have h2 : 0 < x ∧ x < ((16 : Nat) : Int) := by omega
      have := Nat.two_pow_pos (15 - x.toNat)
      rw [if_pos h2, if_pos hx]
      constructor
      · intro h; omega
      · intro h; cases h
    · have h2 : ¬ (0 < x ∧ x < ((16 : Nat) : Int)) := by omega
      rw [if_neg h2, if_neg hx, Nat.add_zero]
      exact ks_zero hl
theorem nz_count {l : List Int} {n : Nat} (hn : 0 < n) : (nz l).count (n : Int) = l.count (n : Int) := by
  unfold nz
  rw [List.count_filter]
  simp; omega
theorem cs0_one {l : List Int} (h : okL l) : cs0 l = [0, 1, 0, 0, 0, 0, 0, 0, 0, 0, 0, 0, 0, 0, 0, 0] ↔ nz l = [1] := by
  constructor
  · intro hc
    have hcount : ∀ n : Nat, 0 < n → n < 16 → (nz l).count (n : Int) = if n = 1 then 1 else 0 := by
      intro n h0 h1
      have h2 : rd (cs0 l) (n : Int) = (c0 l n : Int) := rd_cs0 h1
      rw [hc] at h2
      rw [nz_count h0]
      have h3 : c0 l n = l.count (n : Int) := by unfold c0; rw [if_neg (by omega)]
      rw [← h3]
      have h4 : ∀ m : Nat, m < 16 → 0 < m → rd [(0 : Int), 1, 0, 0, 0, 0, 0, 0, 0, 0, 0, 0, 0, 0, 0, 0] (m : Int) = if m = 1 then 1 else 0 := by decide
      rw [h4 n h1 h0] at h2
      by_cases hh : n = 1
      · rw [if_pos hh] at h2 ⊢; omega
      · rw [if_neg hh] at h2 ⊢; omega
    have hall : ∀ x ∈ nz l, x = 1 := by
      intro x hx
      have hx' := List.mem_filter.1 hx
      have h0 : 0 < x := by simpa using hx'.2
      have h1 := (h.2 x hx'.1).2
      obtain ⟨m, hm⟩ := Int.eq_ofNat_of_zero_le (by omega : 0 ≤ x)
      have h2 := hcount m (by omega) (by omega)
      have h3 : 0 < (nz l).count (m : Int) := List.count_pos_iff.2 (hm ▸ hx)
      split at h2 <;> omega
    have h1 := hcount 1 (by omega) (by omega)
    simp only [if_true] at h1
    have h2 : (nz l).length = 1 := by
      have : (nz l).count (1 : Int) = (nz l).length := List.count_eq_length.2 fun b hb => (hall b hb).symm
      rw [← this]; exact h1
    match hn : nz l, h2 with
    | [y], _ => rw [hall y (by rw [hn]; simp)]
  · intro hn
    have h3 : ∀ j ∈ List.range 16, (if j = 0 then (0 : Int) else ((l.count (j : Int) : Nat) : Int)) = if j = 1 then 1 else 0 := by
      intro j _
      by_cases h0 : j = 0
      · subst h0; rfl
      · rw [if_neg h0, ← nz_count (by omega), hn]
        by_cases h1 : j = 1
        · subst h1; rfl
        · simp [h1, List.count_cons]; omega
    unfold cs0
    rw [List.map_congr_left h3]
    rfl

theorem progCheck (K : Nat) (l : List Int) (hK : 320 < K) : huff_Check.m K l = .ok (sCheck l) := by
  unfold huff_Check.m sCheck
  obtain ⟨h1, h2⟩ := progCount K l hK
  by_cases h : okL l
  · rw [h1 h, if_pos h]
    simp only [Res.bind_ok, Bool.not_true, cond_false]
    have := progCheck_l1 K l h.1 16 K (by omega) (by omega)
    rw [Nat.sub_self] at this
    refine (show huff_Check.l1 K (cs0 l) K (0 : Int) (0 : Int) = _ from this).trans ?_
    unfold huff_Check.j2
    have e1 : ((ks l 16 : Int) == 0) = decide (nz l = []) := by
      rw [Bool.eq_iff_iff]; simp only [beq_iff_eq, decide_eq_true_eq]; rw [← ks_zero h]; omega
    have e2 : (cs0 l == ([0, (1 : Int), 0, 0, 0, 0, 0, 0, 0, 0, 0, 0, 0, 0, 0, 0] : List Int)) = decide (nz l = [1]) := by
      rw [Bool.eq_iff_iff]; simp only [beq_iff_eq, decide_eq_true_eq]; exact cs0_one h
    have e3 : ((ks l 16 : Int) == 32768) = decide (ks l 16 = 32768) := by
      rw [Bool.eq_iff_iff]; simp only [beq_iff_eq, decide_eq_true_eq]; omega
    rw [e1, e2, e3]
    by_cases a : nz l = [] <;> by_cases b : nz l = [1] <;> by_cases c : ks l 16 = 32768 <;> simp [a, b, c]
  · obtain ⟨c, hc⟩ := h2 h
    rw [hc, if_neg h]
    rfl
end Go.Pu

/- Lengths of codes, checked by the document; its codes. -/
namespace Go.Pu
open Go Go.Sl Go.Mo

theorem ks_perm {l l' : List Int} (h : l.Perm l') : ∀ i, ks l i = ks l' i
  | 0 => rfl
  | i + 1 => by rw [ks, ks, ks_perm h i, c0, c0, h.count_eq]
theorem ks_snoc (l : List Int) (x : Int) (i : Nat) : ks (l ++ [x]) i = ks l i + (if 0 < x ∧ x < i then 2 ^ (15 - x.toNat) else 0) := by
  rw [ks_perm (List.perm_append_singleton x l) i, ks_cons]
theorem nz_snoc (l : List Int) (x : Int) : nz (l ++ [x]) = if 0 < x then nz l ++ [x] else nz l := by
  unfold nz
  rw [List.filter_append]
  split <;> rename_i h <;> simp [h]

theorem refCheck_l1 (K : Nat) (l : List Int) (hl : l.length ≤ 320) : ∀ j k i, i + j = l.length → j < k → (∀ x ∈ l.drop i, inR x) →
    mortiseref06_Check.l1 K l k (ks (l.take i) 16 : Int) ((nz (l.take i)).length : Int) ((nz (l.take i)).getLastD 0) (i : Int) =
      mortiseref06_Check.j2 K (ks l 16 : Int) ((nz l).length : Int) ((nz l).getLastD 0)
  | _, 0, _, _, h, _ => by omega
  | 0, k + 1, i, hi, _, _ => by
    rw [mortiseref06_Check.l1]
    have h1 : decide ((i : Int) < (l.length : Int)) = false := by simp only [decide_eq_false_iff_not]; omega
    rw [h1, cond_false, List.take_of_length_le (by omega)]
  | j + 1, k + 1, i, hi, hk, hr => by
    rw [mortiseref06_Check.l1]
    have hil : i < l.length := by omega
    have h1 : decide ((i : Int) < (l.length : Int)) = true := by simp only [decide_eq_true_eq]; omega
    rw [h1, cond_true, inb_nat hil]
    simp only [chk_true, lt_eq, rd_nat hil]
    rw [drop_cons' hil] at hr
    have hin := hr l[i] List.mem_cons_self
    have h2 : (decide (l[i] < 0) || decide (l[i] > 15)) = false := by obtain ⟨a, b⟩ := hin; simp; omega
    rw [h2, cond_false]
    have e : w64 ((i : Int) + 1) = ((i + 1 : Nat) : Int) := by rw [w64_id (by omega) (by omega)]; push_cast; rfl
    have IH := refCheck_l1 K l hl j k (i + 1) (by omega) (by omega) (fun x hx => hr x (List.mem_cons_of_mem _ hx))
    rw [take_succ' hil, ks_snoc, nz_snoc] at IH
    generalize l[i] = x at hin IH ⊢
    obtain ⟨h0, h15⟩ := hin
    by_cases hx : 0 < x
    · have h3 : decide (x > 0) = true := by simpa using hx
      rw [h3, cond_true]
      obtain ⟨m, rfl⟩ := Int.eq_ofNat_of_zero_le h0
      have e1 : wr .u64 (w64 (15 - (m : Int))) = ((15 - m : Nat) : Int) := by rw [w64_id (by omega) (by omega), wru64_id (by omega) (by omega)]; omega
      have h4 : decide ((0 : Int) ≤ ((15 - m : Nat) : Int)) = true := decide_eq_true (Int.natCast_nonneg _)
      have hp : 2 ^ (15 - m) ≤ 2 ^ 15 := Nat.pow_le_pow_right (by decide) (by omega)
      have e2 : ishl .i64 (1 : Int) ((15 - m : Nat) : Int) = ((1 * 2 ^ (15 - m) : Nat) : Int) := ishl_i64 (a := 1) (by omega) (by omega)
      have hb := ks_le (l := l.take i) (by simp; omega) 16
      have e3 : w64 ((ks (l.take i) 16 : Int) + ((1 * 2 ^ (15 - m) : Nat) : Int)) = ((ks (l.take i) 16 + 2 ^ (15 - m) : Nat) : Int) := by rw [w64_id (by omega) (by omega)]; push_cast; omega
      have hnl : (nz (l.take i)).length ≤ 320 := Nat.le_trans (List.length_filter_le _ _) (by simp; omega)
      have e4 : w64 (((nz (l.take i)).length : Int) + 1) = (((nz (l.take i)).length + 1 : Nat) : Int) := by rw [w64_id (by omega) (by omega)]; push_cast; rfl
      simp only [e1, h4, chk_true, e2, e3, e4, e]
      have h5 : (0 : Int) < (m : Int) ∧ (m : Int) < ((16 : Nat) : Int) := by omega
      rw [if_pos h5, if_pos hx, Int.toNat_natCast] at IH
      simpa using IH
    · have h3 : decide (x > 0) = false := by simpa using hx
      rw [h3, cond_false]
      have h5 : ¬ ((0 : Int) < x ∧ x < ((16 : Nat) : Int)) := by omega
      rw [if_neg h5, if_neg hx, Nat.add_zero] at IH
      rw [e]
      exact IH
theorem refCheck_bad (K : Nat) (l : List Int) (hl : l.length ≤ 320) : ∀ j k i s n z, i + j = l.length → j < k → (∃ x ∈ l.drop i, ¬ inR x) →
    mortiseref06_Check.l1 K l k s n z (i : Int) = .ok 1
  | _, 0, _, _, _, _, _, h, _ => by omega
  | 0, k + 1, i, s, n, z, hi, _, ⟨x, hx, _⟩ => by
    rw [List.drop_eq_nil_of_le (by omega)] at hx; cases hx
  | j + 1, k + 1, i, s, n, z, hi, hk, ⟨x, hx, hn⟩ => by
    rw [mortiseref06_Check.l1]
    have hil : i < l.length := by omega
    have h1 : decide ((i : Int) < (l.length : Int)) = true := by simp only [decide_eq_true_eq]; omega
    rw [h1, cond_true, inb_nat hil]
    simp only [chk_true, lt_eq, rd_nat hil]
    have e : w64 ((i : Int) + 1) = ((i + 1 : Nat) : Int) := by rw [w64_id (by omega) (by omega)]; push_cast; rfl
    by_cases hin : inR l[i]
    · have h2 : (decide (l[i] < 0) || decide (l[i] > 15)) = false := by obtain ⟨a, b⟩ := hin; simp; omega
      have hx' : ∃ x ∈ l.drop (i + 1), ¬ inR x := by
        rw [drop_cons' hil] at hx
        rcases List.mem_cons.1 hx with rfl | hx
        · exact absurd hin hn
        · exact ⟨x, hx, hn⟩
      rw [h2, cond_false]
      obtain ⟨m, hm⟩ := Int.eq_ofNat_of_zero_le hin.1
      have hm15 := hin.2
      by_cases h3 : decide (l[i] > 0) = true
      · have e1 : wr .u64 (w64 (15 - l[i])) = ((15 - m : Nat) : Int) := by rw [hm, w64_id (by omega) (by omega), wru64_id (by omega) (by omega)]; omega
        have h4 : decide ((0 : Int) ≤ ((15 - m : Nat) : Int)) = true := decide_eq_true (Int.natCast_nonneg _)
        simp only [h3, cond_true, e1, h4, chk_true, e]
        exact refCheck_bad K l hl j k (i + 1) _ _ _ (by omega) (by omega) hx'
      · rw [Bool.not_eq_true] at h3
        rw [h3, cond_false, e]
        exact refCheck_bad K l hl j k (i + 1) _ _ _ (by omega) (by omega) hx'
    · have h2 : (decide (l[i] < 0) || decide (l[i] > 15)) = true := by unfold inR at hin; simp; omega
      rw [h2, cond_true]

theorem refCheck (K : Nat) (l : List Int) (hK : 320 < K) : mortiseref06_Check.m K l = .ok (sCheck l) := by
  unfold mortiseref06_Check.m sCheck
  by_cases h : okL l
  · rw [if_pos h]
    have h3 : decide ((l.length : Int) > 320) = false := by have := h.1; simp only [decide_eq_false_iff_not]; omega
    rw [h3, cond_false]
    have := refCheck_l1 K l h.1 l.length K 0 (by omega) (by have := h.1; omega) (by simpa using h.2)
    have hk0 : ks (l.take 0) 16 = 0 := by simp [ks, c0]
    rw [hk0] at this
    refine (show mortiseref06_Check.l1 K l K (0 : Int) (0 : Int) (0 : Int) (0 : Int) = _ from this).trans ?_
    unfold mortiseref06_Check.j2 mortiseref06_Check.j3 mortiseref06_Check.j4
    have e3 : ((ks l 16 : Int) == 32768) = decide (ks l 16 = 32768) := by
      rw [Bool.eq_iff_iff]; simp only [beq_iff_eq, decide_eq_true_eq]; omega
    rw [e3]
    match hz : nz l with
    | [] => simp
    | [x] =>
      have hb : (x == 1) = decide (x = 1) := rfl
      by_cases c : ks l 16 = 32768 <;> by_cases hx : x = 1 <;> simp [c, hx, hb]
    | x :: y :: r =>
      have h1 : (((x :: y :: r).length : Int) == 0) = false := by rw [beq_eq_false_iff_ne]; simp; omega
      have h2 : (((x :: y :: r).length : Int) == 1) = false := by rw [beq_eq_false_iff_ne]; simp; omega
      rw [h1, h2]
      by_cases c : ks l 16 = 32768 <;> simp [c]
  · rw [if_neg h]
    by_cases h1 : l.length ≤ 320
    · have h3 : decide ((l.length : Int) > 320) = false := by simp only [decide_eq_false_iff_not]; omega
      rw [h3, cond_false]
      have hb : ∃ x ∈ l.drop 0, ¬ inR x := by
        apply Classical.byContradiction
        intro hno
        refine h ⟨h1, fun x hx => Classical.byContradiction fun hx2 => hno ⟨x, by simpa using hx, hx2⟩⟩
      exact refCheck_bad K l h1 l.length K 0 _ _ _ (by omega) (by omega) hb
    · have h3 : decide ((l.length : Int) > 320) = true := by simp only [decide_eq_true_eq]; omega
      rw [h3, cond_true]
end Go.Pu

/- The codes, as the document lays them. -/
namespace Go.Pu
open Go Go.Sl Go.Mo

/-- The first code of each length. -/
def fst (l : List Int) : Nat → Nat
  | 0 => 0
  | n + 1 => 2 * (fst l n + c0 l n)
def cod (l : List Int) (i : Nat) : Nat := if 0 < l.getD i 0 then fst l (l.getD i 0).toNat + (l.take i).count (l.getD i 0) else 0
def codesL (l : List Int) : List Int := (List.range l.length).map fun (i : Nat) => (cod l i : Int)
def outF (l : List Int) (n i : Nat) : List Int := (List.range l.length).map fun (j : Nat) =>
  if (0 < l.getD j 0 ∧ l.getD j 0 < (n : Int)) ∨ (l.getD j 0 = (n : Int) ∧ j < i) then (cod l j : Int) else 0
theorem fst_le {l : List Int} (h : l.length ≤ 320) : ∀ n, fst l n + 640 ≤ 640 * 2 ^ n
  | 0 => by simp [fst]
  | n + 1 => by
    have := fst_le h n
    have h2 := c0_le h n
    rw [fst, Nat.pow_succ]; omega
theorem outF_len (l : List Int) (n i : Nat) : (outF l n i).length = l.length := by simp [outF]
theorem getD_eq {l : List Int} {i : Nat} (h : i < l.length) : l.getD i 0 = l[i] := by simp [List.getD, List.getElem?_eq_getElem h]
theorem outF_hit {l : List Int} {n i : Nat} (h : i < l.length) (hn : 0 < n) (hi : l[i] = (n : Int)) : (outF l n i).set i ((fst l n + (l.take i).count (n : Int) : Nat) : Int) = outF l n (i + 1) := by
  apply List.ext_getElem
  · simp [outF]
  · intro j h1 h2
    have hj : j < l.length := by simpa [outF] using h1
    rw [List.getElem_set]
    simp only [outF, List.getElem_map, List.getElem_range]
    by_cases hij : i = j
    · subst hij
      have hc : cod l i = fst l n + (l.take i).count (n : Int) := by
        unfold cod
        rw [getD_eq h, hi, if_pos (by omega), Int.toNat_natCast]
      have hd : (0 < l.getD i 0 ∧ l.getD i 0 < (n : Int)) ∨ (l.getD i 0 = (n : Int) ∧ i < i + 1) := .inr ⟨by rw [getD_eq h, hi], by omega⟩
      rw [if_pos rfl, if_pos hd, hc]
    · rw [if_neg hij]
      have : (j < i + 1) ↔ (j < i) := by omega
      simp only [this]
theorem outF_miss {l : List Int} {n i : Nat} (h : i < l.length) (hi : l[i] ≠ (n : Int)) : outF l n i = outF l n (i + 1) := by
  unfold outF
  apply List.map_congr_left
  intro j hj
  have hj' := List.mem_range.1 hj
  by_cases hij : j = i
  · subst hij
    have : ¬ l.getD j 0 = (n : Int) := by rw [getD_eq h]; exact hi
    simp only [this, false_and, or_false]
  · have : (j < i + 1) ↔ (j < i) := by omega
    simp only [this]
theorem outF_next {l : List Int} {n : Nat} (hn : 0 < n) : outF l n l.length = outF l (n + 1) 0 := by
  unfold outF
  apply List.map_congr_left
  intro j hj
  have hj' := List.mem_range.1 hj
  have h1 : ((0 < l.getD j 0 ∧ l.getD j 0 < (n : Int)) ∨ (l.getD j 0 = (n : Int) ∧ j < l.length)) ↔ ((0 < l.getD j 0 ∧ l.getD j 0 < ((n + 1 : Nat) : Int)) ∨ (l.getD j 0 = ((n + 1 : Nat) : Int) ∧ j < 0)) := by
    constructor
    · rintro (⟨a, b⟩ | ⟨a, b⟩)
      · exact .inl ⟨a, by omega⟩
      · exact .inl ⟨by omega, by omega⟩
    · rintro (⟨a, b⟩ | ⟨a, b⟩)
      · by_cases hc : l.getD j 0 < (n : Int)
        · exact .inl ⟨a, hc⟩
        · exact .inr ⟨by omega, hj'⟩
      · omega
  simp only [h1]
theorem c0_pos {l : List Int} {n : Nat} (h : 0 < n) : c0 l n = l.count (n : Int) := by unfold c0; rw [if_neg (by omega)]

theorem refCodes_l2 (K : Nat) (g : List Int → Int → Int → Res (List Int × Int)) (l : List Int) (n : Nat) (hl : l.length ≤ 320) (hn : 0 < n) (hn16 : n < 16) : ∀ j k i, i + j = l.length → j < k →
    mortiseref06_Codes.l2 K g l n k (outF l n i) ((fst l n + (l.take i).count (n : Int) : Nat) : Int) (i : Int) = g (outF l (n + 1) 0) ((fst l n + c0 l n : Nat) : Int) ((n + 1 : Nat) : Int)
  | _, 0, _, _, h => by omega
  | 0, k + 1, i, hi, _ => by
    rw [mortiseref06_Codes.l2]
    have h1 : decide ((i : Int) < (l.length : Int)) = false := by simp only [decide_eq_false_iff_not]; omega
    have e : w64 ((n : Int) + 1) = ((n + 1 : Nat) : Int) := by rw [w64_id (by omega) (by omega)]; push_cast; rfl
    rw [h1, cond_false, List.take_of_length_le (by omega), c0_pos hn, ← outF_next hn]
    have : i = l.length := by omega
    subst this
    simp only [lt_eq, e]
  | j + 1, k + 1, i, hi, hk => by
    rw [mortiseref06_Codes.l2]
    have hil : i < l.length := by omega
    have h1 : decide ((i : Int) < (l.length : Int)) = true := by simp only [decide_eq_true_eq]; omega
    rw [h1, cond_true, inb_nat hil]
    simp only [chk_true, lt_eq, rd_nat hil]
    have e : w64 ((i : Int) + 1) = ((i + 1 : Nat) : Int) := by rw [w64_id (by omega) (by omega)]; push_cast; rfl
    have IH := refCodes_l2 K g l n hl hn hn16 j k (i + 1) (by omega) (by omega)
    rw [take_succ' hil, List.count_append] at IH
    by_cases hx : l[i] = (n : Int)
    · have h2 : (l[i] == (n : Int)) = true := by simpa using hx
      rw [h2, cond_true, inb_nat (by rw [outF_len]; exact hil)]
      have hf := fst_le hl n
      have hp : 2 ^ n ≤ 2 ^ 15 := Nat.pow_le_pow_right (by decide) (by omega)
      have hc : (l.take i).count (n : Int) ≤ 320 := Nat.le_trans List.count_le_length (by simp; omega)
      have e2 : w64 (((fst l n + (l.take i).count (n : Int) : Nat) : Int) + 1) = ((fst l n + ((l.take i).count (n : Int) + 1) : Nat) : Int) := by rw [w64_id (by omega) (by omega)]; push_cast; omega
      simp only [chk_true, e, e2, Int.toNat_natCast, outF_hit hil hn hx]
      have : List.count (n : Int) [l[i]] = 1 := by rw [hx]; simp
      rw [this] at IH
      exact IH
    · have h2 : (l[i] == (n : Int)) = false := by simpa using hx
      rw [h2, cond_false, e, outF_miss hil hx]
      have : List.count (n : Int) [l[i]] = 0 := by
        rw [List.count_eq_zero]; simp; exact fun h => hx h.symm
      rw [this, Nat.add_zero] at IH
      exact IH
theorem outF_end {l : List Int} (h : okL l) : outF l 16 0 = codesL l := by
  unfold outF codesL
  apply List.map_congr_left
  intro j hj
  have hj' := List.mem_range.1 hj
  have hin := h.2 (l.getD j 0) (by rw [getD_eq hj']; exact List.getElem_mem _)
  obtain ⟨h0, h1⟩ := hin
  by_cases hx : 0 < l.getD j 0
  · rw [if_pos (.inl ⟨hx, by omega⟩)]
  · have : ¬ ((0 < l.getD j 0 ∧ l.getD j 0 < ((16 : Nat) : Int)) ∨ (l.getD j 0 = ((16 : Nat) : Int) ∧ j < 0)) := by omega
    rw [if_neg this]
    unfold cod
    rw [if_neg hx]; rfl
theorem refCodes_l1 (K : Nat) (l : List Int) (h : okL l) (hK : 320 < K) : ∀ j k, j ≤ 15 → j < k →
    mortiseref06_Codes.l1 K l k (outF l (16 - j) 0) ((fst l (15 - j) + c0 l (15 - j) : Nat) : Int) ((16 - j : Nat) : Int) = .ok (codesL l, 0)
  | _, 0, _, h => by omega
  | 0, k + 1, _, _ => by
    rw [mortiseref06_Codes.l1]
    have h1 : decide (((16 - 0 : Nat) : Int) ≤ 15) = false := by decide
    rw [h1, cond_false, Nat.sub_zero, outF_end h]
  | j + 1, k + 1, hj, hk => by
    rw [mortiseref06_Codes.l1]
    have hl := h.1
    generalize hn : 16 - (j + 1) = n
    have h1 : decide ((n : Int) ≤ 15) = true := by simp only [decide_eq_true_eq]; omega
    rw [h1, cond_true]
    have e15 : 15 - (j + 1) + 1 = n := by omega
    have hf := fst_le hl n
    have hp : 2 ^ n ≤ 2 ^ 15 := Nat.pow_le_pow_right (by decide) (by omega)
    have hfst : fst l n = 2 * (fst l (15 - (j + 1)) + c0 l (15 - (j + 1))) := by rw [← e15, fst]
    have e2 : w64 (((fst l (15 - (j + 1)) + c0 l (15 - (j + 1)) : Nat) : Int) * 2) = ((fst l n : Nat) : Int) := by rw [w64_id (by omega) (by omega)]; omega
    simp only [lt_eq, e2]
    have := refCodes_l2 K (mortiseref06_Codes.l1 K l k) l n hl (by omega) (by omega) l.length K 0 (by omega) (by omega)
    rw [List.take_zero, List.count_nil, Nat.add_zero] at this
    refine (show _ = _ from this).trans ?_
    have IH := refCodes_l1 K l h hK j k (by omega) (by omega)
    rw [show 16 - j = n + 1 by omega, show 15 - j = n by omega] at IH
    exact IH
/-- The document's codes. -/
theorem refCodes (K : Nat) (l : List Int) (hK : 320 < K) : mortiseref06_Codes.m K l = if sCheck l = 0 then .ok (codesL l, 0) else .ok ([], sCheck l) := by
  unfold mortiseref06_Codes.m
  rw [refCheck K l hK]
  simp only [Res.bind_ok]
  by_cases h : sCheck l = 0
  · have h1 : (sCheck l != 0) = false := by simpa using h
    rw [h1, cond_false, if_pos h]
    have hok : okL l := by
      apply Classical.byContradiction
      intro hn
      unfold sCheck at h
      rw [if_neg hn] at h; omega
    have hr : (decide ((0 : Int) ≤ (l.length : Int)) && room (Int.toNat (l.length : Int)) 8) = true := by
      have := hok.1
      simp only [room, Int.toNat_natCast, Bool.and_eq_true, decide_eq_true_eq]; omega
    rw [hr]
    simp only [chk_true, lt_eq, Int.toNat_natCast]
    have e : outF l (16 - 15) 0 = List.replicate l.length 0 := by
      unfold outF
      rw [List.eq_replicate_iff]
      refine ⟨by simp, fun x hx => ?_⟩
      obtain ⟨j, hj, rfl⟩ := List.mem_map.1 hx
      rw [if_neg (by omega)]
    have := refCodes_l1 K l hok hK 15 K (by omega) (by omega)
    rw [e] at this
    exact this
  · have h1 : (sCheck l != 0) = true := by simpa using h
    rw [h1, cond_true, if_neg h]
end Go.Pu

/- The program's table. -/
namespace Go.Pu
open Go Go.Sl Go.Mo

/-- The symbols of one length, below number i. -/
def idx (l : List Int) (n i : Nat) : List Int := ((List.range i).filter fun j => decide (l.getD j 0 = (n : Int))).map fun (j : Nat) => (j : Int)
/-- The symbols whose length is below n, ranged by lengths. -/
def symsU (l : List Int) : Nat → List Int
  | 0 => []
  | n + 1 => if n = 0 then [] else symsU l n ++ idx l n l.length
theorem idx_succ (l : List Int) (n i : Nat) : idx l n (i + 1) = if l.getD i 0 = (n : Int) then idx l n i ++ [(i : Int)] else idx l n i := by
  unfold idx
  rw [List.range_succ, List.filter_append, List.map_append, List.filter_cons]
  by_cases h : l.getD i 0 = (n : Int)
  · rw [if_pos (by simpa using h), if_pos h]; simp
  · rw [if_neg (by simpa using h), if_neg h]; simp
theorem idx_le (l : List Int) (n i : Nat) : (idx l n i).length ≤ i := by
  unfold idx
  rw [List.length_map]
  exact Nat.le_trans (List.length_filter_le _ _) (by simp)
theorem symsU_le (l : List Int) (h : l.length ≤ 320) : ∀ n, (symsU l n).length ≤ 320 * n
  | 0 => by simp [symsU]
  | n + 1 => by
    rw [symsU]
    split
    · simp
    · have := symsU_le l h n
      have h2 := idx_le l n l.length
      rw [List.length_append]; omega
theorem progNew_l2 (K : Nat) (g : List Int → Int → Res (Option T_huff_Table × Int)) (l : List Int) (n : Nat) (hl : l.length ≤ 320) (hn : 0 < n) (hn16 : n < 16) : ∀ j k i, i + j = l.length → j < k →
    huff_New.l2 K g l n k (symsU l n ++ idx l n i) (i : Int) = g (symsU l (n + 1)) ((n + 1 : Nat) : Int)
  | _, 0, _, _, h => by omega
  | 0, k + 1, i, hi, _ => by
    rw [huff_New.l2]
    have h1 : decide ((i : Int) < (l.length : Int)) = false := by simp only [decide_eq_false_iff_not]; omega
    have e : w64 ((n : Int) + 1) = ((n + 1 : Nat) : Int) := by rw [w64_id (by omega) (by omega)]; push_cast; rfl
    rw [h1, cond_false]
    have : i = l.length := by omega
    subst this
    simp only [lt_eq, e, symsU]
    rw [if_neg (by omega)]
  | j + 1, k + 1, i, hi, hk => by
    rw [huff_New.l2]
    have hil : i < l.length := by omega
    have h1 : decide ((i : Int) < (l.length : Int)) = true := by simp only [decide_eq_true_eq]; omega
    rw [h1, cond_true, inb_nat hil]
    simp only [chk_true, lt_eq, rd_nat hil]
    have e : w64 ((i : Int) + 1) = ((i + 1 : Nat) : Int) := by rw [w64_id (by omega) (by omega)]; push_cast; rfl
    have IH := progNew_l2 K g l n hl hn hn16 j k (i + 1) (by omega) (by omega)
    rw [idx_succ, getD_eq hil] at IH
    by_cases hx : l[i] = (n : Int)
    · have h2 : (l[i] == (n : Int)) = true := by simpa using hx
      have h3 := symsU_le l hl n
      have h4 := idx_le l n i
      have h5 : room ((symsU l n ++ idx l n i).length + ([(i : Int)] : List Int).length) 8 = true := by
        simp only [room, List.length_append, List.length_cons, List.length_nil, decide_eq_true_eq]; omega
      rw [h2, cond_true, h5, e]
      rw [if_pos hx, ← List.append_assoc] at IH
      exact IH
    · have h2 : (l[i] == (n : Int)) = false := by simpa using hx
      rw [h2, cond_false, e]
      rw [if_neg hx] at IH
      exact IH
theorem progNew_l1 (K : Nat) (l c : List Int) (hl : l.length ≤ 320) (hK : 320 < K) : ∀ j k, j ≤ 15 → j < k →
    huff_New.l1 K l c k (symsU l (16 - j)) ((16 - j : Nat) : Int) = .ok (some ⟨c, symsU l 16⟩, 0)
  | _, 0, _, h => by omega
  | 0, k + 1, _, _ => by
    rw [huff_New.l1]
    have h1 : decide (((16 - 0 : Nat) : Int) ≤ 15) = false := by decide
    rw [h1, cond_false]
  | j + 1, k + 1, hj, hk => by
    rw [huff_New.l1]
    generalize hn : 16 - (j + 1) = n
    have h1 : decide ((n : Int) ≤ 15) = true := by simp only [decide_eq_true_eq]; omega
    rw [h1, cond_true]
    have := progNew_l2 K (huff_New.l1 K l c k) l n hl (by omega) (by omega) l.length K 0 (by omega) (by omega)
    rw [show idx l n 0 = [] from rfl, List.append_nil] at this
    refine (show _ = _ from this).trans ?_
    have IH := progNew_l1 K l c hl hK j k (by omega) (by omega)
    rw [show 16 - j = n + 1 by omega] at IH
    exact IH
theorem sCheck_ok {l : List Int} (h : sCheck l = 0) : okL l := by
  apply Classical.byContradiction
  intro hn
  unfold sCheck at h
  rw [if_neg hn] at h; omega
theorem progNew (K : Nat) (l : List Int) (hK : 320 < K) : huff_New.m K l = if sCheck l = 0 then .ok (some ⟨cs0 l, symsU l 16⟩, 0) else .ok (none, sCheck l) := by
  unfold huff_New.m
  rw [progCheck K l hK]
  simp only [Res.bind_ok]
  by_cases h : sCheck l = 0
  · have h1 : (sCheck l != 0) = false := by simpa using h
    rw [h1, cond_false, if_pos h, (progCount K l hK).1 (sCheck_ok h)]
    simp only [Res.bind_ok]
    exact progNew_l1 K l (cs0 l) (sCheck_ok h).1 hK 15 K (by omega) (by omega)
  · have h1 : (sCheck l != 0) = true := by simpa using h
    rw [h1, cond_true, if_neg h]
end Go.Pu

/- The symbols of a code: where each stands. -/
namespace Go.Pu
open Go Go.Sl Go.Mo

theorem idx_length (l : List Int) (n : Nat) : ∀ i, i ≤ l.length → (idx l n i).length = (l.take i).count (n : Int)
  | 0, _ => by simp [idx]
  | i + 1, h => by
    have hil : i < l.length := by omega
    rw [idx_succ, take_succ' hil, List.count_append, getD_eq hil]
    have IH := idx_length l n i (by omega)
    by_cases hx : l[i] = (n : Int)
    · rw [if_pos hx, List.length_append, IH, hx]; simp
    · rw [if_neg hx, IH]
      have : List.count (n : Int) [l[i]] = 0 := by
        rw [List.count_eq_zero]; simp; exact fun h => hx h.symm
      omega
theorem idx_prefix (l : List Int) (n : Nat) {i : Nat} : ∀ j, i ≤ j → idx l n i <+: idx l n j
  | 0, h => by
    have : i = 0 := by omega
    subst this; exact List.prefix_refl _
  | j + 1, h => by
    by_cases hij : i = j + 1
    · subst hij; exact List.prefix_refl _
    · refine (idx_prefix l n j (by omega)).trans ?_
      rw [idx_succ]
      split
      · exact List.prefix_append _ _
      · exact List.prefix_refl _
/-- Where a symbol stands among those of its length. -/
theorem idx_at {l : List Int} {n i : Nat} (h : i < l.length) (hi : l[i] = (n : Int)) : (idx l n l.length)[(l.take i).count (n : Int)]? = some (i : Int) := by
  obtain ⟨r, hr⟩ := idx_prefix l n (i := i + 1) l.length (by omega)
  rw [← hr, idx_succ, getD_eq h, if_pos hi, ← idx_length l n i (by omega), List.append_assoc, List.getElem?_append_right (Nat.le_refl _), Nat.sub_self]
  rfl
theorem idx_mem {l : List Int} {n : Nat} {x : Int} (h : x ∈ idx l n l.length) : ∃ i : Nat, x = i ∧ ∃ hi : i < l.length, l[i] = (n : Int) := by
  obtain ⟨i, hi, rfl⟩ := List.mem_map.1 h
  have h2 := List.mem_filter.1 hi
  have h3 := List.mem_range.1 h2.1
  exact ⟨i, rfl, h3, by have := h2.2; rw [getD_eq h3] at this; simpa using this⟩
theorem idx_nodup (l : List Int) (n : Nat) : (idx l n l.length).Nodup := by
  unfold idx
  refine List.Pairwise.map _ (fun a b hab => by omega) (List.Pairwise.filter _ (List.nodup_range (n := l.length)))
/-- The symbol that stands at a place. -/
theorem idx_get {l : List Int} {n r : Nat} (h : r < l.count (n : Int)) : ∃ i : Nat, (idx l n l.length)[r]? = some (i : Int) ∧ ∃ hi : i < l.length, l[i] = (n : Int) ∧ (l.take i).count (n : Int) = r := by
  have hlen : (idx l n l.length).length = l.count (n : Int) := by rw [idx_length l n l.length (Nat.le_refl _), List.take_length]
  have hr : r < (idx l n l.length).length := by omega
  obtain ⟨i, hx, hi, hl⟩ := idx_mem (List.getElem_mem hr)
  refine ⟨i, by rw [List.getElem?_eq_getElem hr, hx], hi, hl, ?_⟩
  have h1 := idx_at hi hl
  have h2 : (l.take i).count (n : Int) < (idx l n l.length).length := (List.getElem?_eq_some_iff.1 h1).1
  have h3 := (List.getElem?_eq_some_iff.1 h1).2
  have hp := List.pairwise_iff_getElem.1 (idx_nodup l n)
  have he : (idx l n l.length)[(l.take i).count (n : Int)] = (idx l n l.length)[r] := h3.trans hx.symm
  rcases Nat.lt_trichotomy ((l.take i).count (n : Int)) r with h | h | h
  · exact absurd he (hp _ _ h2 hr h)
  · exact h
  · exact absurd he.symm (hp _ _ hr h2 h)
theorem symsU_length (l : List Int) {n : Nat} (h : 0 < n) : (symsU l (n + 1)).length = (symsU l n).length + c0 l n := by
  rw [symsU, if_neg (by omega), List.length_append, idx_length l n l.length (Nat.le_refl _), List.take_length, c0_pos h]
theorem symsU_prefix (l : List Int) {n : Nat} : ∀ m, n ≤ m → 0 < n → symsU l n <+: symsU l m
  | 0, h, h0 => by omega
  | m + 1, h, h0 => by
    by_cases hnm : n = m + 1
    · subst hnm; exact List.prefix_refl _
    · refine (symsU_prefix l m (by omega) h0).trans ?_
      rw [symsU, if_neg (by omega)]
      exact List.prefix_append _ _
/-- The symbol with a given code. -/
theorem syms_at {l : List Int} {n r : Nat} (hn : 0 < n) (hn16 : n < 16) (h : r < c0 l n) :
    ∃ i : Nat, (symsU l 16)[(symsU l n).length + r]? = some (i : Int) ∧ ∃ hi : i < l.length, l[i] = (n : Int) ∧ cod l i = fst l n + r := by
  rw [c0_pos hn] at h
  obtain ⟨i, h1, hi, hl, hc⟩ := idx_get h
  refine ⟨i, ?_, hi, hl, ?_⟩
  · obtain ⟨s, hs⟩ := symsU_prefix l (n := n + 1) 16 (by omega) (by omega)
    have hr : r < (idx l n l.length).length := (List.getElem?_eq_some_iff.1 h1).1
    rw [← hs, symsU, if_neg (by omega), List.append_assoc, List.getElem?_append_right (by omega), show (symsU l n).length + r - (symsU l n).length = r by omega, List.getElem?_append_left hr]
    exact h1
  · unfold cod
    rw [getD_eq hi, hl, if_pos (by omega), Int.toNat_natCast, hc]
/-- Codes of one length differ. -/
theorem cod_lt {l : List Int} {i n : Nat} (hi : i < l.length) (hl : l[i] = (n : Int)) (hn : 0 < n) : cod l i < fst l n + c0 l n ∧ fst l n ≤ cod l i := by
  unfold cod
  rw [getD_eq hi, hl, if_pos (by omega), Int.toNat_natCast]
  have h1 := idx_at hi hl
  have h2 := (List.getElem?_eq_some_iff.1 h1).1
  rw [idx_length l n l.length (Nat.le_refl _), List.take_length] at h2
  rw [c0_pos hn]; omega
theorem cod_inj {l : List Int} {i j n : Nat} (hi : i < l.length) (hj : j < l.length) (hli : l[i] = (n : Int)) (hlj : l[j] = (n : Int)) (hn : 0 < n) (h : cod l i = cod l j) : i = j := by
  unfold cod at h
  rw [getD_eq hi, getD_eq hj, hli, hlj, if_pos (by omega), if_pos (by omega)] at h
  have h1 := idx_at hi hli
  have h2 := idx_at hj hlj
  have h3 : (l.take i).count (n : Int) = (l.take j).count (n : Int) := by omega
  rw [h3, h2] at h1
  have := Option.some.inj h1
  omega
end Go.Pu

/- When a code goes on. -/
namespace Go.Pu
open Go Go.Sl Go.Mo

theorem kraft (l : List Int) : ∀ n, n ≤ 15 → (fst l n + c0 l n) * 2 ^ (15 - n) = ks l (n + 1)
  | 0, _ => by simp [fst, ks, c0]
  | n + 1, h => by
    have IH := kraft l n (by omega)
    rw [ks, ← IH, fst]
    have e : 2 ^ (15 - n) = 2 * 2 ^ (15 - (n + 1)) := by rw [← Nat.pow_succ']; congr 1; omega
    rw [e, Nat.add_mul]
    congr 1
    rw [← Nat.mul_assoc, Nat.mul_comm (fst l n + c0 l n) 2]
theorem symsU_mono (l : List Int) {n m : Nat} (h : n ≤ m) (h0 : 0 < n) : (symsU l n).length ≤ (symsU l m).length := by
  obtain ⟨r, hr⟩ := symsU_prefix l m h h0
  rw [← hr, List.length_append]; omega
/-- Lengths that a code has. -/
theorem sCheck_code {l : List Int} (h : sCheck l = 0) : nz l = [] ∨ nz l = [1] ∨ ks l 16 = 32768 := by
  unfold sCheck at h
  rw [if_pos (sCheck_ok (by unfold sCheck; exact h))] at h
  split at h
  · assumption
  · omega
theorem c0_nz {l : List Int} {n : Nat} (hn : 0 < n) : c0 l n = (nz l).count (n : Int) := by rw [c0_pos hn, nz_count hn]
theorem goes_on {l : List Int} (h : sCheck l = 0) {n v : Nat} (hn : n ≤ 15) (h1 : fst l n + c0 l n ≤ v) (h2 : v < 2 ^ n) (hp : (symsU l (n + 1)).length < (symsU l 16).length) :
    ∃ i m : Nat, n < m ∧ m < 16 ∧ (∃ hi : i < l.length, l[i] = (m : Int)) ∧ cod l i / 2 ^ (m - n) = v := by
  rcases sCheck_code h with hz | hz | hz
  · exfalso
    have : ∀ k, (symsU l k).length = 0 := by
      intro k
      induction k with
      | zero => rfl
      | succ k ih =>
        by_cases hk : k = 0
        · subst hk; rfl
        · rw [symsU_length l (by omega), ih, c0_nz (by omega), hz]; simp
    rw [this 16] at hp; omega
  · have hc : ∀ k : Nat, 0 < k → c0 l k = if k = 1 then 1 else 0 := by
      intro k hk
      rw [c0_nz hk, hz]
      by_cases h1 : k = 1
      · subst h1; simp
      · simp [h1, List.count_cons]; omega
    have hlen : ∀ k, (symsU l (k + 2)).length = 1 := by
      intro k
      induction k with
      | zero => rw [symsU_length l (by omega), hc 1 (by omega)]; rfl
      | succ k ih => rw [symsU_length l (by omega), ih, hc (k + 2) (by omega), if_neg (by omega)]
    have hn0 : n = 0 := by
      apply Classical.byContradiction
      intro hne
      obtain ⟨k, rfl⟩ : ∃ k, n = k + 1 := ⟨n - 1, by omega⟩
      rw [show k + 1 + 1 = k + 2 from rfl, hlen k, show (16 : Nat) = 14 + 2 from rfl, hlen 14] at hp; omega
    subst hn0
    obtain ⟨i, _, hi, hl, hcod⟩ := syms_at (l := l) (n := 1) (r := 0) (by omega) (by omega) (by rw [hc 1 (by omega)]; decide)
    refine ⟨i, 1, by omega, by omega, ⟨hi, hl⟩, ?_⟩
    have : fst l 1 = 0 := by simp [fst, c0]
    rw [hcod, this]; simp; omega
  · have k15 := kraft l 15 (by omega)
    rw [hz] at k15
    simp only [Nat.sub_self, Nat.pow_zero, Nat.mul_one] at k15
    have hn15 : n < 15 := by
      apply Classical.byContradiction
      intro hne
      have : n = 15 := by omega
      subst this; omega
    -- the least length at which it is told
    have hex : ∀ d m, m + d = 15 → n ≤ m → fst l m + c0 l m ≤ v * 2 ^ (m - n) → ∃ m', n < m' ∧ m' < 16 ∧ fst l m' ≤ v * 2 ^ (m' - n) ∧ v * 2 ^ (m' - n) < fst l m' + c0 l m' := by
      intro d
      induction d with
      | zero =>
        intro m hm hnm hle
        exfalso
        have : m = 15 := by omega
        subst this
        have : v * 2 ^ (15 - n) < 2 ^ n * 2 ^ (15 - n) := Nat.mul_lt_mul_of_pos_right h2 (Nat.two_pow_pos _)
        rw [← Nat.pow_add, show n + (15 - n) = 15 by omega] at this
        omega
      | succ d ih =>
        intro m hm hnm hle
        have hnext : fst l (m + 1) ≤ v * 2 ^ (m + 1 - n) := by
          rw [fst, show m + 1 - n = (m - n) + 1 by omega, Nat.pow_succ, ← Nat.mul_assoc]; omega
        by_cases hlt : v * 2 ^ (m + 1 - n) < fst l (m + 1) + c0 l (m + 1)
        · exact ⟨m + 1, by omega, by omega, hnext, hlt⟩
        · exact ih (m + 1) (by omega) (by omega) (by omega)
    obtain ⟨m, hnm, hm16, hlo, hhi⟩ := hex (15 - n) n (by omega) (Nat.le_refl _) (by rw [Nat.sub_self, Nat.pow_zero, Nat.mul_one]; exact h1)
    obtain ⟨i, _, hi, hl, hcod⟩ := syms_at (l := l) (n := m) (r := v * 2 ^ (m - n) - fst l m) (by omega) hm16 (by omega)
    refine ⟨i, m, hnm, hm16, ⟨hi, hl⟩, ?_⟩
    rw [hcod, show fst l m + (v * 2 ^ (m - n) - fst l m) = v * 2 ^ (m - n) by omega, Nat.mul_div_cancel _ (Nat.two_pow_pos _)]
/-- If a longer code is there, some are left. -/
theorem left_of {l : List Int} {i n m : Nat} (hnm : n < m) (hm : m < 16) (hi : i < l.length) (hl : l[i] = (m : Int)) : (symsU l (n + 1)).length < (symsU l 16).length := by
  have h1 := symsU_mono l (n := n + 1) (m := m) (by omega) (by omega)
  have h2 := symsU_mono l (n := m + 1) (m := 16) (by omega) (by omega)
  have h3 := symsU_length l (n := m) (by omega)
  have h4 : 0 < c0 l m := by
    rw [c0_pos (by omega)]
    exact List.count_pos_iff.2 (hl ▸ List.getElem_mem hi)
  omega
end Go.Pu

/- The next symbol: the program's table. -/
namespace Go.Pu
open Go Go.Sl Go.Mo

def nextGo (l : List Int) (t : List UInt8) : Nat → Nat → Nat → Nat → Except Int (Nat × Nat)
  | 0, _, _, _ => .error 3
  | k + 1, n, v, p =>
    if (symsU l (n + 1)).length < (symsU l 16).length then
      if p + 1 ≤ 8 * t.length then
        if 2 * v + (bitB t p).toNat < fst l (n + 1) + c0 l (n + 1) then .ok (((symsU l 16).getD ((symsU l (n + 1)).length + (2 * v + (bitB t p).toNat) - fst l (n + 1)) 0).toNat, p + 1)
        else nextGo l t k (n + 1) (2 * v + (bitB t p).toNat) (p + 1)
      else .error 2
    else .error 3
def sNext (l : List Int) (t : List UInt8) (p : Nat) : Except Int (Nat × Nat) := nextGo l t 16 0 0 p

theorem bit_le (t : List UInt8) (p : Nat) : (bitB t p).toNat ≤ 1 := by cases bitB t p <;> simp
theorem num_one (t : List UInt8) (p : Nat) : num t p 1 = (bitB t p).toNat := by simp [num]
theorem shl_or {v b : Nat} (hb : b ≤ 1) (hv : v < 65536) : ior .i64 (ishl .i64 (v : Int) 1) (wr .i64 (b : Int)) = ((2 * v + b : Nat) : Int) := by
  have e1 : ishl .i64 (v : Int) 1 = ((v * 2 ^ 1 : Nat) : Int) := ishl_i64 (n := 1) (by omega) (by omega)
  rw [e1, wri64_id (by omega) (by omega), ior_i64 (by omega) (by omega)]
  congr 1
  have := Nat.two_pow_add_eq_or_of_lt (i := 1) (b := b) (by omega) v
  rw [Nat.mul_comm v (2 ^ 1), ← this]

theorem progNext_l1 (K : Nat) (l : List Int) (t : List UInt8) (p0 : Nat) (h : okL l) (hl : t.length < 140737488355328) (hK : 32 < K) : ∀ j k n v p, n + j = 15 → j < k → fst l n + c0 l n ≤ v → v < 2 ^ n → p ≤ 8 * t.length →
    huff_Table_Next.l1 K ⟨cs0 l, symsU l 16⟩ ⟨⟨p0⟩, t⟩ k (p : Int) (v : Int) ((fst l n + c0 l n : Nat) : Int) ((symsU l (n + 1)).length : Int) ((n + 1 : Nat) : Int) =
      match nextGo l t (j + 1) n v p with
      | .ok (s, q) => .ok ((s : Int), 0, (q : Int))
      | .error e => .ok (0, e, (p0 : Int))
  | _, 0, _, _, _, _, h, _, _, _ => by omega
  | j, k + 1, n, v, p, hn, hk, hv, hv2, hp => by
    rw [huff_Table_Next.l1, nextGo]
    have hsl := symsU_le l h.1 16
    have hs1 := symsU_le l h.1 (n + 1)
    by_cases hc : (symsU l (n + 1)).length < (symsU l 16).length
    · have h1 : decide (((symsU l (n + 1)).length : Int) < ((symsU l 16).length : Int)) = true := by simp only [decide_eq_true_eq]; omega
      rw [h1, cond_true, if_pos hc]
      have hn15 : n < 15 := by
        apply Classical.byContradiction
        intro hne
        have : n = 15 := by omega
        rw [this] at hc
        exact absurd hc (Nat.lt_irrefl _)
      have hb := progBits K t p 1 (by omega) hp hl hK
      rw [show ((1 : Nat) : Int) = 1 from rfl] at hb
      rw [hb]
      unfold sBits
      by_cases hq : p + 1 ≤ 8 * t.length
      · rw [if_pos hq, if_pos hq]
        simp only [Res.bind_ok, num_one]
        have h2 : ((0 : Int) != 0) = false := rfl
        rw [h2, cond_false]
        have hbl := bit_le t p
        generalize (bitB t p).toNat = b at hbl ⊢
        have hpow : 2 ^ n ≤ 2 ^ 14 := Nat.pow_le_pow_right (by decide) (by omega)
        have e1 := shl_or (v := v) hbl (by omega)
        have e2 : ishl .i64 ((fst l n + c0 l n : Nat) : Int) 1 = (fst l (n + 1) : Int) := by
          have := ishl_i64 (a := fst l n + c0 l n) (n := 1) (by omega) (by omega)
          rw [show ((1 : Nat) : Int) = 1 from rfl] at this
          rw [this, fst, Nat.mul_comm]
        simp only [lt_eq, e1, e2]
        rw [inb_nat (show n + 1 < 16 by omega), chk_true, rd_cs0 (show n + 1 < 16 by omega)]
        have hf : fst l (n + 1) ≤ 2 * v + b := by rw [fst]; omega
        have hfl := fst_le h.1 (n + 1)
        have hpow2 : 2 ^ (n + 1) ≤ 2 ^ 15 := Nat.pow_le_pow_right (by decide) (by omega)
        have hcl := c0_le h.1 (n + 1)
        have e3 : w64 (((2 * v + b : Nat) : Int) - (fst l (n + 1) : Int)) = ((2 * v + b - fst l (n + 1) : Nat) : Int) := by rw [w64_id (by omega) (by omega)]; omega
        simp only [e3]
        by_cases hlt : 2 * v + b < fst l (n + 1) + c0 l (n + 1)
        · have h3 : decide (((2 * v + b - fst l (n + 1) : Nat) : Int) < (c0 l (n + 1) : Int)) = true := by simp only [decide_eq_true_eq]; omega
          rw [h3, cond_true, if_pos hlt]
          have e4 : w64 (((symsU l (n + 1)).length : Int) + ((2 * v + b : Nat) : Int)) = (((symsU l (n + 1)).length + (2 * v + b) : Nat) : Int) := by rw [w64_id (by omega) (by omega)]; push_cast; rfl
          have e5 : w64 ((((symsU l (n + 1)).length + (2 * v + b) : Nat) : Int) - (fst l (n + 1) : Int)) = (((symsU l (n + 1)).length + (2 * v + b) - fst l (n + 1) : Nat) : Int) := by rw [w64_id (by omega) (by omega)]; omega
          simp only [e4, e5]
          obtain ⟨i, hi, _, _, _⟩ := syms_at (l := l) (n := n + 1) (r := 2 * v + b - fst l (n + 1)) (by omega) (by omega) (by omega)
          rw [show (symsU l (n + 1)).length + (2 * v + b - fst l (n + 1)) = (symsU l (n + 1)).length + (2 * v + b) - fst l (n + 1) by omega] at hi
          have hlen := (List.getElem?_eq_some_iff.1 hi).1
          have hget := (List.getElem?_eq_some_iff.1 hi).2
          rw [inb_nat hlen]
          simp only [chk_true, rd_nat hlen, hget, List.getD, hi, Option.getD_some, Int.toNat_natCast]
        · have h3 : decide (((2 * v + b - fst l (n + 1) : Nat) : Int) < (c0 l (n + 1) : Int)) = false := by simp only [decide_eq_false_iff_not]; omega
          rw [h3, cond_false, if_neg hlt]
          have e4 : w64 ((fst l (n + 1) : Int) + (c0 l (n + 1) : Int)) = ((fst l (n + 1) + c0 l (n + 1) : Nat) : Int) := by rw [w64_id (by omega) (by omega)]; push_cast; rfl
          have e5 : w64 (((symsU l (n + 1)).length : Int) + (c0 l (n + 1) : Int)) = ((symsU l (n + 1 + 1)).length : Int) := by
            rw [symsU_length l (n := n + 1) (by omega), w64_id (by omega) (by omega)]; push_cast; rfl
          have e6 : w64 (((n + 1 : Nat) : Int) + 1) = ((n + 1 + 1 : Nat) : Int) := by rw [w64_id (by omega) (by omega)]; push_cast; rfl
          simp only [e4, e5, e6]
          have IH := progNext_l1 K l t p0 h hl hK (j - 1) k (n + 1) (2 * v + b) (p + 1) (by omega) (by omega) (by omega) (by rw [Nat.pow_succ]; omega) (by omega)
          rw [show j - 1 + 1 = j by omega] at IH
          exact IH
      · rw [if_neg hq, if_neg hq]
        simp only [Res.bind_ok]
        have h2 : ((2 : Int) != 0) = true := rfl
        rw [h2, cond_true]
    · have h1 : decide (((symsU l (n + 1)).length : Int) < ((symsU l 16).length : Int)) = false := by simp only [decide_eq_false_iff_not]; omega
      rw [h1, cond_false, if_neg hc]
      rfl
theorem progNext (K : Nat) (l : List Int) (t : List UInt8) (p : Nat) (h : okL l) (hl : t.length < 140737488355328) (hK : 32 < K) (hp : p ≤ 8 * t.length) :
    huff_Table_Next.m K ⟨cs0 l, symsU l 16⟩ ⟨⟨p⟩, t⟩ = match sNext l t p with
      | .ok (s, q) => .ok ((s : Int), 0, (q : Int))
      | .error e => .ok (0, e, (p : Int)) := by
  have := progNext_l1 K l t p h hl hK 15 K 0 0 p (by omega) (by omega) (by simp [fst, c0]) (by simp) hp
  have e1 : ((fst l 0 + c0 l 0 : Nat) : Int) = 0 := by simp [fst, c0]
  have e2 : ((symsU l (0 + 1)).length : Int) = 0 := by simp [symsU]
  rw [e1, e2, show ((0 + 1 : Nat) : Int) = 1 from rfl, show ((0 : Nat) : Int) = 0 from rfl, show (15 + 1 : Nat) = 16 from rfl] at this
  unfold huff_Table_Next.m sNext
  exact this
end Go.Pu

/- The next symbol, as the document reads it. -/
namespace Go.Pu
open Go Go.Sl Go.Mo

theorem codesL_len (l : List Int) : (codesL l).length = l.length := by simp [codesL]
theorem rd_codes {l : List Int} {i : Nat} (h : i < l.length) : rd (codesL l) (i : Int) = (cod l i : Int) := by
  rw [rd_nat (by rw [codesL_len]; exact h)]
  simp [codesL]
/-- Number i is the symbol whose code v is, of n bits. -/
def hits (l : List Int) (n v i : Nat) : Prop := l.getD i 0 = (n : Int) ∧ 0 < n ∧ cod l i = v
/-- The code of number i begins with v, and is longer. -/
def leads (l : List Int) (n v i : Nat) : Prop := (n : Int) < l.getD i 0 ∧ cod l i / 2 ^ ((l.getD i 0).toNat - n) = v
instance (l : List Int) (n v i : Nat) : Decidable (hits l n v i) := inferInstanceAs (Decidable (_ ∧ _))
instance (l : List Int) (n v i : Nat) : Decidable (leads l n v i) := inferInstanceAs (Decidable (_ ∧ _))
theorem cod_small {l : List Int} (h : okL l) {i : Nat} (hi : i < l.length) : cod l i < 33554432 := by
  obtain ⟨h0, h1⟩ := h.2 l[i] (List.getElem_mem hi)
  obtain ⟨m, hm⟩ := Int.eq_ofNat_of_zero_le h0
  by_cases hm0 : m = 0
  · unfold cod
    rw [getD_eq hi, hm, hm0, if_neg (by omega)]; omega
  · have := (cod_lt hi hm (by omega)).1
    have h2 := fst_le h.1 m
    have h3 := c0_le h.1 m
    have hp : 2 ^ m ≤ 2 ^ 15 := Nat.pow_le_pow_right (by decide) (by omega)
    omega

open Classical in
theorem refNext_l2_miss (K : Nat) (g : Int → Int → Int → Res (Int × Int × Int)) (l : List Int) (t : List UInt8) (p0 p n v : Nat) (h : okL l) (hn : n ≤ 15) (hv : v < 65536) : ∀ j k i b, i + j = l.length → j < k → (∀ i', i ≤ i' → i' < l.length → ¬ hits l n v i') →
    mortiseref06_Next.l2 K g l (codesL l) ⟨t, p0⟩ (p : Int) (v : Int) (n : Int) k b (i : Int) =
      mortiseref06_Next.j3 K g ⟨t, p0⟩ (p : Int) (v : Int) (n : Int) (b || decide (∃ i', i ≤ i' ∧ i' < l.length ∧ leads l n v i'))
  | _, 0, _, _, _, h, _ => by omega
  | 0, k + 1, i, b, hi, _, _ => by
    rw [mortiseref06_Next.l2]
    have h1 : decide ((i : Int) < (l.length : Int)) = false := by simp only [decide_eq_false_iff_not]; omega
    have h2 : decide (∃ i', i ≤ i' ∧ i' < l.length ∧ leads l n v i') = false := by
      simp only [decide_eq_false_iff_not]
      rintro ⟨i', a, c, _⟩; omega
    rw [h1, cond_false, h2, Bool.or_false]
  | j + 1, k + 1, i, b, hi, hk, hno => by
    rw [mortiseref06_Next.l2]
    have hil : i < l.length := by omega
    have h1 : decide ((i : Int) < (l.length : Int)) = true := by simp only [decide_eq_true_eq]; omega
    rw [h1, cond_true, inb_nat hil, inb_nat (show i < (codesL l).length by rw [codesL_len]; exact hil)]
    simp only [chk_true, rd_nat hil, rd_codes hil, lt_eq]
    have hii : (imp true ((l[i] == (n : Int)) && decide ((n : Int) > 0)) true) = true := by unfold imp; simp
    rw [hii, chk_true]
    have hmiss := hno i (Nat.le_refl _) hil
    have h2 : (((l[i] == (n : Int)) && decide ((n : Int) > 0)) && ((cod l i : Int) == (v : Int))) = false := by
      rw [Bool.eq_false_iff]
      intro hx
      simp only [Bool.and_eq_true, beq_iff_eq, decide_eq_true_eq] at hx
      exact hmiss ⟨by rw [getD_eq hil]; exact hx.1.1, by omega, by omega⟩
    rw [h2, cond_false]
    have e : w64 ((i : Int) + 1) = ((i + 1 : Nat) : Int) := by rw [w64_id (by omega) (by have := h.1; omega)]; push_cast; rfl
    have IH := fun b' => refNext_l2_miss K g l t p0 p n v h hn hv j k (i + 1) b' (by omega) (by omega) (fun i' a c => hno i' (by omega) c)
    have hsplit : decide (∃ i', i ≤ i' ∧ i' < l.length ∧ leads l n v i') = (decide (leads l n v i) || decide (∃ i', i + 1 ≤ i' ∧ i' < l.length ∧ leads l n v i')) := by
      rw [Bool.eq_iff_iff]
      simp only [Bool.or_eq_true, decide_eq_true_eq]
      constructor
      · rintro ⟨i', a, c, d⟩
        by_cases hii : i = i'
        · subst hii; exact .inl d
        · exact .inr ⟨i', by omega, c, d⟩
      · rintro (d | ⟨i', a, c, d⟩)
        · exact ⟨i, Nat.le_refl _, hil, d⟩
        · exact ⟨i', by omega, c, d⟩
    rw [hsplit]
    cases b with
    | true =>
      rw [cond_true, e, IH true]; simp
    | false =>
      rw [cond_false]
      obtain ⟨h0, h15⟩ := h.2 l[i] (List.getElem_mem hil)
      obtain ⟨m, hm⟩ := Int.eq_ofNat_of_zero_le h0
      by_cases hgt : l[i] > (n : Int)
      · have h3 : decide (l[i] > (n : Int)) = true := by simpa using hgt
        rw [h3, cond_true]
        have e1 : wr .u64 (w64 (l[i] - (n : Int))) = ((m - n : Nat) : Int) := by rw [hm, w64_id (by omega) (by omega), wru64_id (by omega) (by omega)]; omega
        have h4 : decide ((0 : Int) ≤ ((m - n : Nat) : Int)) = true := decide_eq_true (Int.natCast_nonneg _)
        simp only [e1, h4, chk_true]
        rw [ishr_nat (k := .i64) (n := m - n) (by show _ ≤ 64; omega), e, IH]
        have : (((cod l i / 2 ^ (m - n) : Nat) : Int) == (v : Int)) = decide (leads l n v i) := by
          rw [Bool.eq_iff_iff]
          simp only [beq_iff_eq, decide_eq_true_eq]
          unfold leads
          rw [getD_eq hil, hm, Int.toNat_natCast]
          constructor
          · intro hx; exact ⟨by omega, by omega⟩
          · rintro ⟨_, hx⟩; omega
        rw [this]; simp
      · have h3 : decide (l[i] > (n : Int)) = false := by simpa using hgt
        rw [h3, cond_false, e, IH]
        have : decide (leads l n v i) = false := by
          simp only [decide_eq_false_iff_not]
          unfold leads
          rw [getD_eq hil]; omega
        rw [this]; simp
theorem refNext_l2_hit (K : Nat) (g : Int → Int → Int → Res (Int × Int × Int)) (l : List Int) (t : List UInt8) (p0 p n v i0 : Nat) (h : okL l) (hn : n ≤ 15) (hi0 : i0 < l.length) (hh : hits l n v i0) : ∀ j k i b, i + j = l.length → j < k → i ≤ i0 →
    mortiseref06_Next.l2 K g l (codesL l) ⟨t, p0⟩ (p : Int) (v : Int) (n : Int) k b (i : Int) = .ok ((i0 : Int), 0, (p : Int))
  | _, 0, _, _, _, h, _ => by omega
  | 0, k + 1, i, b, hi, _, _ => by omega
  | j + 1, k + 1, i, b, hi, hk, hle => by
    rw [mortiseref06_Next.l2]
    have hil : i < l.length := by omega
    have h1 : decide ((i : Int) < (l.length : Int)) = true := by simp only [decide_eq_true_eq]; omega
    rw [h1, cond_true, inb_nat hil, inb_nat (show i < (codesL l).length by rw [codesL_len]; exact hil)]
    simp only [chk_true, rd_nat hil, rd_codes hil, lt_eq]
    have hii : (imp true ((l[i] == (n : Int)) && decide ((n : Int) > 0)) true) = true := by unfold imp; simp
    rw [hii, chk_true]
    have e : w64 ((i : Int) + 1) = ((i + 1 : Nat) : Int) := by rw [w64_id (by omega) (by have := h.1; omega)]; push_cast; rfl
    by_cases hi1 : hits l n v i
    · have heq : i = i0 := cod_inj hil hi0 (by have := hi1.1; rwa [getD_eq hil] at this) (by have := hh.1; rwa [getD_eq hi0] at this) hh.2.1 (hi1.2.2.trans hh.2.2.symm)
      subst heq
      have h2 : (((l[i] == (n : Int)) && decide ((n : Int) > 0)) && ((cod l i : Int) == (v : Int))) = true := by
        have a := hi1.1
        rw [getD_eq hil] at a
        have b' := hi1.2.1
        have c := hi1.2.2
        simp only [Bool.and_eq_true, beq_iff_eq, decide_eq_true_eq]
        exact ⟨⟨a, by omega⟩, by omega⟩
      rw [h2, cond_true]
    · have hne : i ≠ i0 := fun he => hi1 (he ▸ hh)
      have h2 : (((l[i] == (n : Int)) && decide ((n : Int) > 0)) && ((cod l i : Int) == (v : Int))) = false := by
        rw [Bool.eq_false_iff]
        intro hx
        simp only [Bool.and_eq_true, beq_iff_eq, decide_eq_true_eq] at hx
        exact hi1 ⟨by rw [getD_eq hil]; exact hx.1.1, by omega, by omega⟩
      rw [h2, cond_false]
      have IH := fun b' => refNext_l2_hit K g l t p0 p n v i0 h hn hi0 hh j k (i + 1) b' (by omega) (by omega) (by omega)
      obtain ⟨h0, h15⟩ := h.2 l[i] (List.getElem_mem hil)
      obtain ⟨m, hm⟩ := Int.eq_ofNat_of_zero_le h0
      cases b with
      | true => rw [cond_true, e]; exact IH true
      | false =>
        rw [cond_false]
        by_cases hgt : l[i] > (n : Int)
        · have h3 : decide (l[i] > (n : Int)) = true := by simpa using hgt
          have e1 : wr .u64 (w64 (l[i] - (n : Int))) = ((m - n : Nat) : Int) := by rw [hm, w64_id (by omega) (by omega), wru64_id (by omega) (by omega)]; omega
          have h4 : decide ((0 : Int) ≤ ((m - n : Nat) : Int)) = true := decide_eq_true (Int.natCast_nonneg _)
          simp only [h3, cond_true, e1, h4, chk_true, e]
          exact IH _
        · have h3 : decide (l[i] > (n : Int)) = false := by simpa using hgt
          rw [h3, cond_false, e]; exact IH false
end Go.Pu

/- The next symbol, as the document reads it: the outer rounds. -/
namespace Go.Pu
open Go Go.Sl Go.Mo

theorem hits_iff {l : List Int} (h : okL l) {n v : Nat} (hn : n ≤ 15) (hlo : fst l n ≤ v) : (∃ i, i < l.length ∧ hits l n v i) ↔ (0 < n ∧ v < fst l n + c0 l n) := by
  constructor
  · rintro ⟨i, hi, h1, h2, h3⟩
    rw [getD_eq hi] at h1
    have := (cod_lt hi h1 h2).1
    exact ⟨h2, by omega⟩
  · rintro ⟨h1, h2⟩
    obtain ⟨i, _, hi, hl, hc⟩ := syms_at (l := l) (n := n) (r := v - fst l n) h1 (by omega) (by omega)
    exact ⟨i, hi, by rw [getD_eq hi]; exact hl, h1, by omega⟩

/-- The document's reader at the head of round n: a symbol of n bits, or on. -/
def headR (l : List Int) (t : List UInt8) (n v p : Nat) : Except Int (Nat × Nat) :=
  if 0 < n ∧ v < fst l n + c0 l n then .ok (((symsU l 16).getD ((symsU l n).length + v - fst l n) 0).toNat, p) else nextGo l t (16 - n) n v p

open Classical in
theorem refNext_l1 (K : Nat) (l : List Int) (t : List UInt8) (p0 : Nat) (hs : sCheck l = 0) (hl : t.length < 140737488355328) (hK : 320 < K) : ∀ j k n v p, n + j = 15 → j < k → fst l n ≤ v → v < 2 ^ n → p ≤ 8 * t.length →
    mortiseref06_Next.l1 K l (codesL l) ⟨t, p0⟩ k (p : Int) (v : Int) (n : Int) =
      match headR l t n v p with
      | .ok (s, q) => .ok ((s : Int), 0, (q : Int))
      | .error e => .ok (0, e, (p0 : Int))
  | _, 0, _, _, _, _, h, _, _, _ => by omega
  | j, k + 1, n, v, p, hn, hk, hv, hv2, hp => by
    have h := sCheck_ok hs
    rw [mortiseref06_Next.l1]
    have h1 : decide ((n : Int) ≤ 15) = true := by simp only [decide_eq_true_eq]; omega
    rw [h1, cond_true]
    have hlen := h.1
    have hpow : 2 ^ n ≤ 2 ^ 15 := Nat.pow_le_pow_right (by decide) (by omega)
    unfold headR
    by_cases hhit : 0 < n ∧ v < fst l n + c0 l n
    · rw [if_pos hhit]
      obtain ⟨i, hsym, hi, hli, hc⟩ := syms_at (l := l) (n := n) (r := v - fst l n) hhit.1 (by omega) (by omega)
      have := refNext_l2_hit K (mortiseref06_Next.l1 K l (codesL l) ⟨t, p0⟩ k) l t p0 p n v i h (by omega) hi ⟨by rw [getD_eq hi]; exact hli, hhit.1, by omega⟩ l.length K 0 false (by omega) (by omega) (by omega)
      refine (show _ = _ from this).trans ?_
      rw [show (symsU l n).length + (v - fst l n) = (symsU l n).length + v - fst l n by omega] at hsym
      simp only [List.getD, hsym, Option.getD_some, Int.toNat_natCast]
    · rw [if_neg hhit]
      have hge : fst l n + c0 l n ≤ v := by
        by_cases h0 : 0 < n
        · omega
        · have : n = 0 := by omega
          subst this; simp [fst, c0]
      have hno : ∀ i', 0 ≤ i' → i' < l.length → ¬ hits l n v i' := fun i' _ hi' hh => hhit ((hits_iff h (by omega) hv).1 ⟨i', hi', hh⟩)
      have := refNext_l2_miss K (mortiseref06_Next.l1 K l (codesL l) ⟨t, p0⟩ k) l t p0 p n v h (by omega) (by omega) l.length K 0 false (by omega) (by omega) hno
      refine (show _ = _ from this).trans ?_
      rw [Bool.false_or, mortiseref06_Next.j3, show 16 - n = (15 - n) + 1 by omega, nextGo]
      by_cases hc : (symsU l (n + 1)).length < (symsU l 16).length
      · rw [if_pos hc]
        obtain ⟨i, m, hnm, hm16, ⟨hi, hli⟩, hcod⟩ := goes_on hs (by omega) hge hv2 hc
        have hb : decide (∃ i', 0 ≤ i' ∧ i' < l.length ∧ leads l n v i') = true := by
          simp only [decide_eq_true_eq]
          refine ⟨i, by omega, hi, ?_, ?_⟩
          · rw [getD_eq hi, hli]; omega
          · rw [getD_eq hi, hli, Int.toNat_natCast]; exact hcod
        rw [hb]
        simp only [Bool.not_true, cond_false]
        have hn15 : n < 15 := by omega
        have hbits := refBits K t p 1 (by omega) hp hl (by omega)
        rw [show ((1 : Nat) : Int) = 1 from rfl] at hbits
        rw [hbits]
        unfold sBits
        by_cases hq : p + 1 ≤ 8 * t.length
        · rw [if_pos hq, if_pos hq]
          simp only [Res.bind_ok, num_one]
          have h2 : ((0 : Int) != 0) = false := rfl
          rw [h2, cond_false]
          have hbl := bit_le t p
          generalize (bitB t p).toNat = b at hbl ⊢
          have hpow2 : 2 ^ n ≤ 2 ^ 14 := Nat.pow_le_pow_right (by decide) (by omega)
          have e1 : w64 (2 * (v : Int)) = ((2 * v : Nat) : Int) := by rw [w64_id (by omega) (by omega)]; push_cast; rfl
          have e2 : wr .i64 (b : Int) = (b : Int) := wri64_id (by omega) (by omega)
          have e3 : w64 (((2 * v : Nat) : Int) + (b : Int)) = ((2 * v + b : Nat) : Int) := by rw [w64_id (by omega) (by omega)]; push_cast; rfl
          have e4 : w64 ((n : Int) + 1) = ((n + 1 : Nat) : Int) := by rw [w64_id (by omega) (by omega)]; push_cast; rfl
          simp only [lt_eq, e1, e2, e3, e4]
          have IH := refNext_l1 K l t p0 hs hl hK (j - 1) k (n + 1) (2 * v + b) (p + 1) (by omega) (by omega) (by rw [fst]; omega) (by rw [Nat.pow_succ]; omega) (by omega)
          refine IH.trans ?_
          unfold headR
          rw [show 16 - (n + 1) = 15 - n by omega]
          by_cases hlt : 2 * v + b < fst l (n + 1) + c0 l (n + 1)
          · rw [if_pos ⟨by omega, hlt⟩, if_pos hlt]
          · rw [if_neg (fun hx => hlt hx.2), if_neg hlt]
        · rw [if_neg hq, if_neg hq]
          simp only [Res.bind_ok]
          have h2 : ((2 : Int) != 0) = true := rfl
          rw [h2, cond_true]
      · rw [if_neg hc]
        have hb : decide (∃ i', 0 ≤ i' ∧ i' < l.length ∧ leads l n v i') = false := by
          simp only [decide_eq_false_iff_not]
          rintro ⟨i, _, hi, h1, _⟩
          rw [getD_eq hi] at h1
          obtain ⟨h0, h15⟩ := h.2 l[i] (List.getElem_mem hi)
          obtain ⟨m, hm⟩ := Int.eq_ofNat_of_zero_le h0
          exact hc (left_of (by omega) (by omega) hi hm)
        rw [hb]
        rfl
theorem refNext (K : Nat) (l : List Int) (t : List UInt8) (p : Nat) (hs : sCheck l = 0) (hl : t.length < 140737488355328) (hK : 320 < K) (hp : p ≤ 8 * t.length) :
    mortiseref06_Next.m K l (codesL l) ⟨t, p⟩ = match sNext l t p with
      | .ok (s, q) => .ok ((s : Int), 0, (q : Int))
      | .error e => .ok (0, e, (p : Int)) := by
  have := refNext_l1 K l t p hs hl hK 15 K 0 0 p (by omega) (by omega) (by simp [fst]) (by simp) hp
  have e1 : headR l t 0 0 p = sNext l t p := by unfold headR sNext; rw [if_neg (by omega)]
  rw [e1, show ((0 : Nat) : Int) = 0 from rfl] at this
  unfold mortiseref06_Next.m
  exact this
end Go.Pu

