/- Plain facts on the models: what they compute, and what holds of them; conditions: what each theorem states. -/
import Derived.Test.YtjgcmokfinicnaaDoorMbmcgp
set_option linter.unusedVariables false
set_option linter.unusedSimpArgs false
/- Plain facts on wrapped numbers, and bits of a text. -/
namespace Go.Pu
open Go Go.Sl

theorem w64_id {x : Int} (h0 : -9223372036854775808 ≤ x) (h1 : x < 9223372036854775808) : w64 x = x := by
  show (if (true && decide (x % 18446744073709551616 ≥ 9223372036854775808)) = true then x % 18446744073709551616 - 18446744073709551616 else x % 18446744073709551616) = x
  split <;> rename_i h <;> simp at h <;> omega
theorem wru64 (x : Int) : wr .u64 x = x % 18446744073709551616 := by
  simp [wr, IntKind.wrap, IntKind.bits, IntKind.signed]
theorem wru32 (x : Int) : wr .u32 x = x % 4294967296 := by
  simp [wr, IntKind.wrap, IntKind.bits, IntKind.signed]
theorem wru8 (x : Int) : wr .u8 x = x % 256 := by
  simp [wr, IntKind.wrap, IntKind.bits, IntKind.signed]
theorem wru64_id {x : Int} (h0 : 0 ≤ x) (h1 : x < 18446744073709551616) : wr .u64 x = x := by rw [wru64]; omega
theorem wru32_id {x : Int} (h0 : 0 ≤ x) (h1 : x < 4294967296) : wr .u32 x = x := by rw [wru32]; omega
theorem wru8_id {x : Int} (h0 : 0 ≤ x) (h1 : x < 256) : wr .u8 x = x := by rw [wru8]; omega
theorem wri64_id {x : Int} (h0 : -9223372036854775808 ≤ x) (h1 : x < 9223372036854775808) : wr .i64 x = x := w64_id h0 h1

theorem ofInt_nat (n a : Nat) : BitVec.ofInt n (a : Int) = BitVec.ofNat n a := by
  apply BitVec.eq_of_toNat_eq
  simp
theorem iand_i64 {a b : Nat} (ha : a < 9223372036854775808) (hb : b < 9223372036854775808) : iand .i64 a b = ((a &&& b : Nat) : Int) := by
  show IntKind.i64.wrap ((BitVec.ofInt 64 (a : Int) &&& BitVec.ofInt 64 (b : Int)).toNat : Int) = _
  simp only [ofInt_nat, BitVec.toNat_and, BitVec.toNat_ofNat]
  rw [Nat.mod_eq_of_lt (by omega), Nat.mod_eq_of_lt (by omega)]
  have : a &&& b ≤ a := Nat.and_le_left
  exact w64_id (by omega) (by omega)
theorem iquo_nat {a b : Nat} (ha : a < 9223372036854775808) (hb : b < 9223372036854775808) : iquo .i64 (a : Int) (b : Int) = ((a / b : Nat) : Int) := by
  unfold iquo
  have h1 : (a : Int).tdiv (b : Int) = ((a / b : Nat) : Int) := by rw [Int.ofNat_tdiv]
  rw [h1]
  have h2 : a / b ≤ a := Nat.div_le_self _ _
  generalize a / b = q at h2 ⊢
  exact w64_id (by omega) (by omega)
theorem irem_nat {a b : Nat} : irem (a : Int) (b : Int) = ((a % b : Nat) : Int) := by
  unfold irem
  rw [Int.ofNat_tmod]
theorem ishr_nat {k : IntKind} {a n : Nat} (hn : n ≤ k.bits) : ishr k (a : Int) (n : Int) = ((a / 2 ^ n : Nat) : Int) := by
  unfold ishr
  rw [Int.toNat_natCast, Nat.min_eq_left hn, Int.fdiv_eq_ediv_of_nonneg _ (Int.pow_nonneg (by decide))]
  simp
theorem ishl_i64 {a n : Nat} (hn : n ≤ 64) (h : a * 2 ^ n < 9223372036854775808) : ishl .i64 (a : Int) (n : Int) = ((a * 2 ^ n : Nat) : Int) := by
  unfold ishl
  rw [Int.toNat_natCast, show min n IntKind.i64.bits = n from Nat.min_eq_left hn]
  have e : (a : Int) * 2 ^ n = ((a * 2 ^ n : Nat) : Int) := by push_cast; rfl
  rw [e]
  exact w64_id (by omega) (by omega)
theorem ishl_u32 {a n : Nat} (hn : n ≤ 32) (h : a * 2 ^ n < 4294967296) : ishl .u32 (a : Int) (n : Int) = ((a * 2 ^ n : Nat) : Int) := by
  unfold ishl
  rw [Int.toNat_natCast, show min n IntKind.u32.bits = n from Nat.min_eq_left hn]
  have e : (a : Int) * 2 ^ n = ((a * 2 ^ n : Nat) : Int) := by push_cast; rfl
  rw [e]
  exact wru32_id (by omega) (by omega)
end Go.Pu

/- Bits of a text: the document's reader. -/
namespace Go.Pu
open Go Go.Sl Go.Mo

/-- Bit number i of a text. -/
def bitB (t : List UInt8) (i : Nat) : Bool := (t.getD (i / 8) 0).toNat.testBit (i % 8)
/-- n bits from bit p on, the lowest first. -/
def num (t : List UInt8) (p : Nat) : Nat → Nat
  | 0 => 0
  | n + 1 => num t p n + (bitB t (p + n)).toNat * 2 ^ n

/-- The bits, or why not. -/
def sBits (t : List UInt8) (p n : Nat) : Except Int (Nat × Nat) := if p + n ≤ 8 * t.length then .ok (num t p n, p + n) else .error 2

end Go.Pu

/- Bits of a text: the program's reader. -/
namespace Go.Pu
open Go Go.Sl Go.Mo

end Go.Pu

/- Bytes of a text: both readers. -/
namespace Go.Pu
open Go Go.Sl Go.Mo

def sBytes (t : List UInt8) (p n : Nat) : Except Int (List UInt8 × Nat) :=
  if (p + 7) / 8 + n ≤ t.length then .ok ((t.drop ((p + 7) / 8)).take n, 8 * ((p + 7) / 8 + n)) else .error 2

end Go.Pu

/- Lengths of codes: counted and checked. -/
namespace Go.Pu
open Go Go.Sl Go.Mo

def inR (x : Int) : Prop := 0 ≤ x ∧ x ≤ 15
instance (x : Int) : Decidable (inR x) := inferInstanceAs (Decidable (_ ∧ _))
def okL (l : List Int) : Prop := l.length ≤ 320 ∧ ∀ x ∈ l, inR x
instance (l : List Int) : Decidable (okL l) := inferInstanceAs (Decidable (_ ∧ _))
/-- How many have each length. -/
def cs (l : List Int) : List Int := (List.range 16).map fun (j : Nat) => ((l.count (j : Int) : Nat) : Int)
def cs0 (l : List Int) : List Int := (List.range 16).map fun (j : Nat) => if j = 0 then 0 else ((l.count (j : Int) : Nat) : Int)
theorem cs_len (l : List Int) : (cs l).length = 16 := by simp [cs]
theorem cs0_len (l : List Int) : (cs0 l).length = 16 := by simp [cs0]
theorem rd_nat {α : Type} [Inhabited α] {l : List α} {i : Nat} (h : i < l.length) : rd l (i : Int) = l[i] := by
  simp [rd, List.getD, List.getElem?_eq_getElem h]
theorem inb_nat {i n : Nat} (h : i < n) : inb (i : Int) n = true := by simp only [inb, decide_eq_true_eq]; omega
theorem take_succ' {α : Type} {l : List α} {i : Nat} (h : i < l.length) : l.take (i + 1) = l.take i ++ [l[i]] := List.take_succ_eq_append_getElem h
theorem drop_cons' {α : Type} {l : List α} {i : Nat} (h : i < l.length) : l.drop i = l[i] :: l.drop (i + 1) := List.drop_eq_getElem_cons h

theorem cs_step {l : List Int} {i : Nat} (h : i < l.length) (hi : inR l[i]) (hl : l.length ≤ 320) :
    (cs (l.take i)).set (Int.toNat l[i]) (w64 ((rd (cs (l.take i)) l[i]) + 1)) = cs (l.take (i + 1)) := by
  obtain ⟨h0, h1⟩ := hi
  obtain ⟨x, hx⟩ := Int.eq_ofNat_of_zero_le h0
  have hx16 : x < 16 := by omega
  have hrd : rd (cs (l.take i)) l[i] = (((l.take i).count (x : Int) : Nat) : Int) := by
    rw [hx, rd_nat (by rw [cs_len]; exact hx16)]; simp [cs]
  have hc : (l.take i).count (x : Int) ≤ 320 := Nat.le_trans List.count_le_length (by simp; omega)
  rw [hrd, w64_id (by omega) (by omega), hx]
  apply List.ext_getElem
  · simp [cs]
  · intro j h1 h2
    simp only [List.length_set, cs_len] at h1
    rw [List.getElem_set]
    simp only [Int.toNat_natCast, take_succ' h]
    by_cases hj : x = j
    · subst hj
      simp [cs, List.count_append, hx]
    · have : ¬ ((x : Int) = (j : Int)) := by omega
      simp [cs, List.count_append, hj, hx, List.count_cons, this]

theorem count_l1 (K : Nat) (l : List Int) (hl : l.length ≤ 320) : ∀ j k i, i + j = l.length → j < k → (∀ x ∈ l.drop i, inR x) →
    huff_count.l1 K l k (cs (l.take i)) (i : Int) = huff_count.j2 K (cs l)
  | _, 0, _, _, h, _ => by omega
  | 0, k + 1, i, hi, _, _ => by
    rw [huff_count.l1]
    have h1 : decide ((i : Int) < (l.length : Int)) = false := by simp only [decide_eq_false_iff_not]; omega
    rw [h1, cond_false, List.take_of_length_le (by omega)]
  | j + 1, k + 1, i, hi, hk, hr => by
    rw [huff_count.l1]
    have hil : i < l.length := by omega
    have h1 : decide ((i : Int) < (l.length : Int)) = true := by simp only [decide_eq_true_eq]; omega
    rw [h1, cond_true, inb_nat hil]
    simp only [chk_true, lt_eq, rd_nat hil]
    rw [drop_cons' hil] at hr
    have hin := hr l[i] List.mem_cons_self
    have h2 : (decide (l[i] < 0) || decide (l[i] > 15)) = false := by obtain ⟨a, b⟩ := hin; simp; omega
    have h3 : inb l[i] 16 = true := by obtain ⟨a, b⟩ := hin; simp only [inb, decide_eq_true_eq]; omega
    rw [h2, cond_false, h3]
    simp only [chk_true]
    rw [cs_step hil hin hl]
    have e : w64 ((i : Int) + 1) = ((i + 1 : Nat) : Int) := by rw [w64_id (by omega) (by omega)]; push_cast; rfl
    rw [e]
    exact count_l1 K l hl j k (i + 1) (by omega) (by omega) (fun x hx => hr x (List.mem_cons_of_mem _ hx))
theorem count_bad (K : Nat) (l : List Int) (hl : l.length ≤ 320) : ∀ j k i c, i + j = l.length → j < k → c.length = 16 → (∃ x ∈ l.drop i, ¬ inR x) →
    ∃ c', huff_count.l1 K l k c (i : Int) = .ok (c', false)
  | _, 0, _, _, _, h, _, _ => by omega
  | 0, k + 1, i, c, hi, _, _, ⟨x, hx, _⟩ => by
    rw [List.drop_eq_nil_of_le (by omega)] at hx; cases hx
  | j + 1, k + 1, i, c, hi, hk, hc, ⟨x, hx, hn⟩ => by
    rw [huff_count.l1]
    have hil : i < l.length := by omega
    have h1 : decide ((i : Int) < (l.length : Int)) = true := by simp only [decide_eq_true_eq]; omega
    rw [h1, cond_true, inb_nat hil]
    simp only [chk_true, lt_eq, rd_nat hil]
    by_cases hin : inR l[i]
    · have h2 : (decide (l[i] < 0) || decide (l[i] > 15)) = false := by obtain ⟨a, b⟩ := hin; simp; omega
      have h3 : inb l[i] 16 = true := by obtain ⟨a, b⟩ := hin; simp only [inb, decide_eq_true_eq]; omega
      rw [h2, cond_false, h3]
      simp only [chk_true]
      have e : w64 ((i : Int) + 1) = ((i + 1 : Nat) : Int) := by rw [w64_id (by omega) (by omega)]; push_cast; rfl
      rw [e]
      refine count_bad K l hl j k (i + 1) _ (by omega) (by omega) (by simp [hc]) ⟨x, ?_, hn⟩
      rw [drop_cons' hil] at hx
      rcases List.mem_cons.1 hx with rfl | hx
      · exact absurd hin hn
      · exact hx
    · have h2 : (decide (l[i] < 0) || decide (l[i] > 15)) = true := by
        unfold inR at hin; simp; omega
      rw [h2, cond_true]
      exact ⟨_, rfl⟩

theorem progCount (K : Nat) (l : List Int) (hK : 320 < K) : (okL l → huff_count.m K l = .ok (cs0 l, true)) ∧ (¬ okL l → ∃ c, huff_count.m K l = .ok (c, false)) := by
  unfold huff_count.m
  have e0 : cs (l.take 0) = List.replicate 16 (0 : Int) := by simp [cs]; rfl
  constructor
  · intro ⟨h1, h2⟩
    have h3 : decide ((l.length : Int) > 320) = false := by simp only [decide_eq_false_iff_not]; omega
    rw [h3, cond_false, ← e0]
    have := count_l1 K l h1 l.length K 0 (by omega) (by omega) (by simpa using h2)
    rw [show ((0 : Nat) : Int) = 0 from rfl] at this
    rw [this, huff_count.j2]
    simp only [lt_eq]
    rfl
  · intro hn
    by_cases h1 : l.length ≤ 320
    · have h3 : decide ((l.length : Int) > 320) = false := by simp only [decide_eq_false_iff_not]; omega
      rw [h3, cond_false]
      have hb : ∃ x ∈ l.drop 0, ¬ inR x := by
        apply Classical.byContradiction
        intro hno
        refine hn ⟨h1, fun x hx => Classical.byContradiction fun hx2 => hno ⟨x, by simpa using hx, hx2⟩⟩
      obtain ⟨c, hc⟩ := count_bad K l h1 l.length K 0 (List.replicate 16 0) (by omega) (by omega) (by simp) hb
      exact ⟨c, hc⟩
    · have h3 : decide ((l.length : Int) > 320) = true := by simp only [decide_eq_true_eq]; omega
      rw [h3, cond_true]
      exact ⟨_, rfl⟩
end Go.Pu

/- Lengths of codes: checked, by the program and by the document. -/
namespace Go.Pu
open Go Go.Sl Go.Mo

def c0 (l : List Int) (n : Nat) : Nat := if n = 0 then 0 else l.count (n : Int)
/-- The sum of the parts that the codes of the lengths below i take, of 2^15. -/
def ks (l : List Int) : Nat → Nat
  | 0 => 0
  | i + 1 => ks l i + c0 l i * 2 ^ (15 - i)
def nz (l : List Int) : List Int := l.filter fun x => decide (0 < x)
def sCheck (l : List Int) : Int := if okL l then (if nz l = [] ∨ nz l = [1] ∨ ks l 16 = 32768 then 0 else 3) else 1

theorem c0_le {l : List Int} (h : l.length ≤ 320) (n : Nat) : c0 l n ≤ 320 := by
  unfold c0
  split
  · omega
  · exact Nat.le_trans List.count_le_length h
theorem ks_le {l : List Int} (h : l.length ≤ 320) : ∀ i, ks l i ≤ i * 10485760
  | 0 => by simp [ks]
  | i + 1 => by
    have h1 := ks_le h i
    have h2 : c0 l i * 2 ^ (15 - i) ≤ 320 * 2 ^ 15 := Nat.mul_le_mul (c0_le h i) (Nat.pow_le_pow_right (by decide) (by omega))
    rw [ks]; omega
theorem rd_cs0 {l : List Int} {n : Nat} (h : n < 16) : rd (cs0 l) (n : Int) = (c0 l n : Int) := by
  rw [rd_nat (by rw [cs0_len]; exact h)]
  simp only [cs0, c0, List.getElem_map, List.getElem_range]
  split <;> rfl

theorem progCheck_l1 (K : Nat) (l : List Int) (hl : l.length ≤ 320) : ∀ j k, j ≤ 16 → j < k → huff_Check.l1 K (cs0 l) k (ks l (16 - j) : Int) ((16 - j : Nat) : Int) = huff_Check.j2 K (cs0 l) (ks l 16 : Int)
  | _, 0, _, h => by omega
  | 0, k + 1, _, _ => by
    rw [huff_Check.l1]
    rfl
  | j + 1, k + 1, hj, hk => by
    rw [huff_Check.l1]
    generalize hi : 16 - (j + 1) = i
    have hil : i < 16 := by omega
    have h1 : decide ((i : Int) < 16) = true := by simp only [decide_eq_true_eq]; omega
    have h2 : decide ((0 : Int) ≤ (i : Int)) = true := decide_eq_true (Int.natCast_nonneg _)
    rw [h1, cond_true, inb_nat hil, h2]
    simp only [chk_true, lt_eq, rd_cs0 hil]
    have e1 : ishr .i64 (32768 : Int) (i : Int) = ((2 ^ (15 - i) : Nat) : Int) := by
      rw [show (32768 : Int) = ((32768 : Nat) : Int) from rfl, ishr_nat (k := .i64) (by show i ≤ 64; omega)]
      congr 1
      rw [show (32768 : Nat) = 2 ^ (15 - i) * 2 ^ i by rw [← Nat.pow_add, show 15 - i + i = 15 by omega], Nat.mul_div_cancel _ (Nat.two_pow_pos i)]
    have hb := ks_le hl i
    have hb2 := ks_le hl (i + 1)
    have hm : c0 l i * 2 ^ (15 - i) ≤ 320 * 2 ^ 15 := Nat.mul_le_mul (c0_le hl i) (Nat.pow_le_pow_right (by decide) (by omega))
    have e2 : w64 ((c0 l i : Int) * ((2 ^ (15 - i) : Nat) : Int)) = ((c0 l i * 2 ^ (15 - i) : Nat) : Int) := by
      rw [← Int.natCast_mul, w64_id (by omega) (by omega)]
    have e3 : w64 ((ks l i : Int) + ((c0 l i * 2 ^ (15 - i) : Nat) : Int)) = (ks l (i + 1) : Int) := by
      have e : (ks l i : Int) + ((c0 l i * 2 ^ (15 - i) : Nat) : Int) = (ks l (i + 1) : Int) := by rw [ks]; push_cast; rfl
      rw [e, w64_id (by omega) (by omega)]
    have e4 : w64 ((i : Int) + 1) = ((i + 1 : Nat) : Int) := by rw [w64_id (by omega) (by omega)]; push_cast; rfl
    simp only [e1, e2, e3, e4]
    have := progCheck_l1 K l hl j k (by omega) (by omega)
    rw [show 16 - j = i + 1 by omega] at this
    exact this

theorem nz_cons (x : Int) (l : List Int) : nz (x :: l) = if 0 < x then x :: nz l else nz l := by
  simp [nz, List.filter_cons]
theorem c0_cons (x : Int) (l : List Int) (n : Nat) : c0 (x :: l) n = c0 l n + (if 0 < n ∧ x = n then 1 else 0) := by
  unfold c0
  by_cases h : n = 0
  · subst h; simp
  · have : 0 < n := by omega
    simp only [h, if_false, List.count_cons, this, true_and]
    by_cases hx : x = (n : Int) <;> simp [hx]
theorem ks_cons (x : Int) (l : List Int) : ∀ i, ks (x :: l) i = ks l i + (if 0 < x ∧ x < i then 2 ^ (15 - x.toNat) else 0)
  | 0 => by simp [ks]; omega
  | i + 1 => by
    rw [ks, ks, ks_cons x l i, c0_cons]
    by_cases hx : x = (i : Int)
    · subst hx
      by_cases h0 : 0 < i
      · have h1 : (0 : Int) < (i : Int) := by omega
        have h2 : ¬ ((i : Int) < (i : Int)) := by omega
        have h3 : (i : Int) < ((i + 1 : Nat) : Int) := by omega
        simp only [h0, h1, h2, h3, and_true, and_false, if_true, if_false, Int.toNat_natCast]
        rw [Nat.add_mul, Nat.one_mul]; omega
      · have : i = 0 := by omega
        subst this; simp
    · have h1 : ¬ (0 < i ∧ x = (i : Int)) := fun h => hx h.2
      rw [if_neg h1]
      by_cases h2 : 0 < x ∧ x < (i : Int)
      · have h3 : 0 < x ∧ x < ((i + 1 : Nat) : Int) := by omega
        rw [if_pos h2, if_pos h3]; simp only [Nat.add_zero]; omega
      · have h3 : ¬ (0 < x ∧ x < ((i + 1 : Nat) : Int)) := by omega
        rw [if_neg h2, if_neg h3]; simp only [Nat.add_zero]
theorem okL_cons {x : Int} {l : List Int} (h : okL (x :: l)) : inR x ∧ okL l := ⟨h.2 x (by simp), by have := h.1; simp at this; omega, fun y hy => h.2 y (by simp [hy])⟩
theorem ks_zero : ∀ {l : List Int}, okL l → (ks l 16 = 0 ↔ nz l = [])
  | [], _ => by simp [nz]; rfl
  | x :: l, h => by
    obtain ⟨⟨hx0, hx1⟩, hl⟩ := okL_cons h
    rw [ks_cons, nz_cons]
    by_cases hx : 0 < x
    · have h2 : 0 < x ∧ x < ((16 : Nat) : Int) := by omega
      have := Nat.two_pow_pos (15 - x.toNat)
      rw [if_pos h2, if_pos hx]
      constructor
      · intro h; omega
      · intro h; cases h
    · have h2 : ¬ (0 < x ∧ x < ((16 : Nat) : Int)) := by omega
      rw [if_neg h2, if_neg hx, Nat.add_zero]
      exact ks_zero hl
theorem nz_count {l : List Int} {n : Nat} (hn : 0 < n) : (nz l).count (n : Int) = l.count (n : Int) := by
  unfold nz
  rw [List.count_filter]
  simp; omega
theorem cs0_one {l : List Int} (h : okL l) : cs0 l = [0, 1, 0, 0, 0, 0, 0, 0, 0, 0, 0, 0, 0, 0, 0, 0] ↔ nz l = [1] := by
  constructor
  · intro hc
    have hcount : ∀ n : Nat, 0 < n → n < 16 → (nz l).count (n : Int) = if n = 1 then 1 else 0 := by
      intro n h0 h1
      have h2 : rd (cs0 l) (n : Int) = (c0 l n : Int) := rd_cs0 h1
      rw [hc] at h2
      rw [nz_count h0]
      have h3 : c0 l n = l.count (n : Int) := by unfold c0; rw [if_neg (by omega)]
      rw [← h3]
      have h4 : ∀ m : Nat, m < 16 → 0 < m → rd [(0 : Int), 1, 0, 0, 0, 0, 0, 0, 0, 0, 0, 0, 0, 0, 0, 0] (m : Int) = if m = 1 then 1 else 0 := by decide
      rw [h4 n h1 h0] at h2
      by_cases hh : n = 1
      · rw [if_pos hh] at h2 ⊢; omega
      · rw [if_neg hh] at h2 ⊢; omega
    have hall : ∀ x ∈ nz l, x = 1 := by
      intro x hx
      have hx' := List.mem_filter.1 hx
      have h0 : 0 < x := by simpa using hx'.2
      have h1 := (h.2 x hx'.1).2
      obtain ⟨m, hm⟩ := Int.eq_ofNat_of_zero_le (by omega : 0 ≤ x)
      have h2 := hcount m (by omega) (by omega)
      have h3 : 0 < (nz l).count (m : Int) := List.count_pos_iff.2 (hm ▸ hx)
      split at h2 <;> omega
    have h1 := hcount 1 (by omega) (by omega)
    simp only [if_true] at h1
    have h2 : (nz l).length = 1 := by
      have : (nz l).count (1 : Int) = (nz l).length := List.count_eq_length.2 fun b hb => (hall b hb).symm
      rw [← this]; exact h1
    match hn : nz l, h2 with
    | [y], _ => rw [hall y (by rw [hn]; simp)]
  · intro hn
    have h3 : ∀ j ∈ List.range 16, (if j = 0 then (0 : Int) else ((l.count (j : Int) : Nat) : Int)) = if j = 1 then 1 else 0 := by
      intro j _
      by_cases h0 : j = 0
      · subst h0; rfl
      · rw [if_neg h0, ← nz_count (by omega), hn]
        by_cases h1 : j = 1
        · subst h1; rfl
        · simp [h1, List.count_cons]; omega
    unfold cs0
    rw [List.map_congr_left h3]
    rfl

theorem progCheck (K : Nat) (l : List Int) (hK : 320 < K) : huff_Check.m K l = .ok (sCheck l) := by
  unfold huff_Check.m sCheck
  obtain ⟨h1, h2⟩ := progCount K l hK
  by_cases h : okL l
  · rw [h1 h, if_pos h]
    simp only [Res.bind_ok, Bool.not_true, cond_false]
    have := progCheck_l1 K l h.1 16 K (by omega) (by omega)
    rw [Nat.sub_self] at this
    refine (show huff_Check.l1 K (cs0 l) K (0 : Int) (0 : Int) = _ from this).trans ?_
    unfold huff_Check.j2
    have e1 : ((ks l 16 : Int) == 0) = decide (nz l = []) := by
      rw [Bool.eq_iff_iff]; simp only [beq_iff_eq, decide_eq_true_eq]; rw [← ks_zero h]; omega
    have e2 : (cs0 l == ([0, (1 : Int), 0, 0, 0, 0, 0, 0, 0, 0, 0, 0, 0, 0, 0, 0] : List Int)) = decide (nz l = [1]) := by
      rw [Bool.eq_iff_iff]; simp only [beq_iff_eq, decide_eq_true_eq]; exact cs0_one h
    have e3 : ((ks l 16 : Int) == 32768) = decide (ks l 16 = 32768) := by
      rw [Bool.eq_iff_iff]; simp only [beq_iff_eq, decide_eq_true_eq]; omega
    rw [e1, e2, e3]
    by_cases a : nz l = [] <;> by_cases b : nz l = [1] <;> by_cases c : ks l 16 = 32768 <;> simp [a, b, c]
  · obtain ⟨c, hc⟩ := h2 h
    rw [hc, if_neg h]
    rfl
end Go.Pu

/- Lengths of codes, checked by the document; its codes. -/
namespace Go.Pu
open Go Go.Sl Go.Mo

theorem ks_perm {l l' : List Int} (h : l.Perm l') : ∀ i, ks l i = ks l' i
  | 0 => rfl
  | i + 1 => by rw [ks, ks, ks_perm h i, c0, c0, h.count_eq]
theorem ks_snoc (l : List Int) (x : Int) (i : Nat) : ks (l ++ [x]) i = ks l i + (if 0 < x ∧ x < i then 2 ^ (15 - x.toNat) else 0) := by
  rw [ks_perm (List.perm_append_singleton x l) i, ks_cons]
theorem nz_snoc (l : List Int) (x : Int) : nz (l ++ [x]) = if 0 < x then nz l ++ [x] else nz l := by
  unfold nz
  rw [List.filter_append]
  split <;> rename_i h <;> simp [h]

theorem refCheck_l1 (K : Nat) (l : List Int) (hl : l.length ≤ 320) : ∀ j k i, i + j = l.length → j < k → (∀ x ∈ l.drop i, inR x) →
    mortiseref06_Check.l1 K l k (ks (l.take i) 16 : Int) ((nz (l.take i)).length : Int) ((nz (l.take i)).getLastD 0) (i : Int) =
      mortiseref06_Check.j2 K (ks l 16 : Int) ((nz l).length : Int) ((nz l).getLastD 0)
  | _, 0, _, _, h, _ => by omega
  | 0, k + 1, i, hi, _, _ => by
    rw [mortiseref06_Check.l1]
    have h1 : decide ((i : Int) < (l.length : Int)) = false := by simp only [decide_eq_false_iff_not]; omega
    rw [h1, cond_false, List.take_of_length_le (by omega)]
  | j + 1, k + 1, i, hi, hk, hr => by
    rw [mortiseref06_Check.l1]
    have hil : i < l.length := by omega
    have h1 : decide ((i : Int) < (l.length : Int)) = true := by simp only [decide_eq_true_eq]; omega
    rw [h1, cond_true, inb_nat hil]
    simp only [chk_true, lt_eq, rd_nat hil]
    rw [drop_cons' hil] at hr
    have hin := hr l[i] List.mem_cons_self
    have h2 : (decide (l[i] < 0) || decide (l[i] > 15)) = false := by obtain ⟨a, b⟩ := hin; simp; omega
    rw [h2, cond_false]
    have e : w64 ((i : Int) + 1) = ((i + 1 : Nat) : Int) := by rw [w64_id (by omega) (by omega)]; push_cast; rfl
    have IH := refCheck_l1 K l hl j k (i + 1) (by omega) (by omega) (fun x hx => hr x (List.mem_cons_of_mem _ hx))
    rw [take_succ' hil, ks_snoc, nz_snoc] at IH
    generalize l[i] = x at hin IH ⊢
    obtain ⟨h0, h15⟩ := hin
    by_cases hx : 0 < x
    · have h3 : decide (x > 0) = true := by simpa using hx
      rw [h3, cond_true]
      obtain ⟨m, rfl⟩ := Int.eq_ofNat_of_zero_le h0
      have e1 : wr .u64 (w64 (15 - (m : Int))) = ((15 - m : Nat) : Int) := by rw [w64_id (by omega) (by omega), wru64_id (by omega) (by omega)]; omega
      have h4 : decide ((0 : Int) ≤ ((15 - m : Nat) : Int)) = true := decide_eq_true (Int.natCast_nonneg _)
      have hp : 2 ^ (15 - m) ≤ 2 ^ 15 := Nat.pow_le_pow_right (by decide) (by omega)
      have e2 : ishl .i64 (1 : Int) ((15 - m : Nat) : Int) = ((1 * 2 ^ (15 - m) : Nat) : Int) := ishl_i64 (a := 1) (by omega) (by omega)
      have hb := ks_le (l := l.take i) (by simp; omega) 16
      have e3 : w64 ((ks (l.take i) 16 : Int) + ((1 * 2 ^ (15 - m) : Nat) : Int)) = ((ks (l.take i) 16 + 2 ^ (15 - m) : Nat) : Int) := by rw [w64_id (by omega) (by omega)]; push_cast; omega
      have hnl : (nz (l.take i)).length ≤ 320 := Nat.le_trans (List.length_filter_le _ _) (by simp; omega)
      have e4 : w64 (((nz (l.take i)).length : Int) + 1) = (((nz (l.take i)).length + 1 : Nat) : Int) := by rw [w64_id (by omega) (by omega)]; push_cast; rfl
      simp only [e1, h4, chk_true, e2, e3, e4, e]
      have h5 : (0 : Int) < (m : Int) ∧ (m : Int) < ((16 : Nat) : Int) := by omega
      rw [if_pos h5, if_pos hx, Int.toNat_natCast] at IH
      simpa using IH
    · have h3 : decide (x > 0) = false := by simpa using hx
      rw [h3, cond_false]
      have h5 : ¬ ((0 : Int) < x ∧ x < ((16 : Nat) : Int)) := by omega
      rw [if_neg h5, if_neg hx, Nat.add_zero] at IH
      rw [e]
      exact IH
theorem refCheck_bad (K : Nat) (l : List Int) (hl : l.length ≤ 320) : ∀ j k i s n z, i + j = l.length → j < k → (∃ x ∈ l.drop i, ¬ inR x) →
    mortiseref06_Check.l1 K l k s n z (i : Int) = .ok 1
  | _, 0, _, _, _, _, _, h, _ => by omega
  | 0, k + 1, i, s, n, z, hi, _, ⟨x, hx, _⟩ => by
    rw [List.drop_eq_nil_of_le (by omega)] at hx; cases hx
  | j + 1, k + 1, i, s, n, z, hi, hk, ⟨x, hx, hn⟩ => by
    rw [mortiseref06_Check.l1]
    have hil : i < l.length := by omega
    have h1 : decide ((i : Int) < (l.length : Int)) = true := by simp only [decide_eq_true_eq]; omega
    rw [h1, cond_true, inb_nat hil]
    simp only [chk_true, lt_eq, rd_nat hil]
    have e : w64 ((i : Int) + 1) = ((i + 1 : Nat) : Int) := by rw [w64_id (by omega) (by omega)]; push_cast; rfl
    by_cases hin : inR l[i]
    · have h2 : (decide (l[i] < 0) || decide (l[i] > 15)) = false := by obtain ⟨a, b⟩ := hin; simp; omega
      have hx' : ∃ x ∈ l.drop (i + 1), ¬ inR x := by
        rw [drop_cons' hil] at hx
        rcases List.mem_cons.1 hx with rfl | hx
        · exact absurd hin hn
        · exact ⟨x, hx, hn⟩
      rw [h2, cond_false]
      obtain ⟨m, hm⟩ := Int.eq_ofNat_of_zero_le hin.1
      have hm15 := hin.2
      by_cases h3 : decide (l[i] > 0) = true
      · have e1 : wr .u64 (w64 (15 - l[i])) = ((15 - m : Nat) : Int) := by rw [hm, w64_id (by omega) (by omega), wru64_id (by omega) (by omega)]; omega
        have h4 : decide ((0 : Int) ≤ ((15 - m : Nat) : Int)) = true := decide_eq_true (Int.natCast_nonneg _)
        simp only [h3, cond_true, e1, h4, chk_true, e]
        exact refCheck_bad K l hl j k (i + 1) _ _ _ (by omega) (by omega) hx'
      · rw [Bool.not_eq_true] at h3
        rw [h3, cond_false, e]
        exact refCheck_bad K l hl j k (i + 1) _ _ _ (by omega) (by omega) hx'
    · have h2 : (decide (l[i] < 0) || decide (l[i] > 15)) = true := by unfold inR at hin; simp; omega
      rw [h2, cond_true]

theorem refCheck (K : Nat) (l : List Int) (hK : 320 < K) : mortiseref06_Check.m K l = .ok (sCheck l) := by
  unfold mortiseref06_Check.m sCheck
  by_cases h : okL l
  · rw [if_pos h]
    have h3 : decide ((l.length : Int) > 320) = false := by have := h.1; simp only [decide_eq_false_iff_not]; omega
    rw [h3, cond_false]
    have := refCheck_l1 K l h.1 l.length K 0 (by omega) (by have := h.1; omega) (by simpa using h.2)
    have hk0 : ks (l.take 0) 16 = 0 := by simp [ks, c0]
    rw [hk0] at this
    refine (show mortiseref06_Check.l1 K l K (0 : Int) (0 : Int) (0 : Int) (0 : Int) = _ from this).trans ?_
    unfold mortiseref06_Check.j2 mortiseref06_Check.j3 mortiseref06_Check.j4
    have e3 : ((ks l 16 : Int) == 32768) = decide (ks l 16 = 32768) := by
      rw [Bool.eq_iff_iff]; simp only [beq_iff_eq, decide_eq_true_eq]; omega
    rw [e3]
    match hz : nz l with
    | [] => simp
    | [x] =>
      have hb : (x == 1) = decide (x = 1) := rfl
      by_cases c : ks l 16 = 32768 <;> by_cases hx : x = 1 <;> simp [c, hx, hb]
    | x :: y :: r =>
      have h1 : (((x :: y :: r).length : Int) == 0) = false := by rw [beq_eq_false_iff_ne]; simp; omega
      have h2 : (((x :: y :: r).length : Int) == 1) = false := by rw [beq_eq_false_iff_ne]; simp; omega
      rw [h1, h2]
      by_cases c : ks l 16 = 32768 <;> simp [c]
  · rw [if_neg h]
    by_cases h1 : l.length ≤ 320
    · have h3 : decide ((l.length : Int) > 320) = false := by simp only [decide_eq_false_iff_not]; omega
      rw [h3, cond_false]
      have hb : ∃ x ∈ l.drop 0, ¬ inR x := by
        apply Classical.byContradiction
        intro hno
        refine h ⟨h1, fun x hx => Classical.byContradiction fun hx2 => hno ⟨x, by simpa using hx, hx2⟩⟩
      exact refCheck_bad K l h1 l.length K 0 _ _ _ (by omega) (by omega) hb
    · have h3 : decide ((l.length : Int) > 320) = true := by simp only [decide_eq_true_eq]; omega
      rw [h3, cond_true]
end Go.Pu

/- The codes, as the document lays them. -/
namespace Go.Pu
open Go Go.Sl Go.Mo

/-- The first code of each length. -/
def fst (l : List Int) : Nat → Nat
  | 0 => 0
  | n + 1 => 2 * (fst l n + c0 l n)
def cod (l : List Int) (i : Nat) : Nat := if 0 < l.getD i 0 then fst l (l.getD i 0).toNat + (l.take i).count (l.getD i 0) else 0
def codesL (l : List Int) : List Int := (List.range l.length).map fun (i : Nat) => (cod l i : Int)
def outF (l : List Int) (n i : Nat) : List Int := (List.range l.length).map fun (j : Nat) =>
  if (0 < l.getD j 0 ∧ l.getD j 0 < (n : Int)) ∨ (l.getD j 0 = (n : Int) ∧ j < i) then (cod l j : Int) else 0
theorem fst_le {l : List Int} (h : l.length ≤ 320) : ∀ n, fst l n + 640 ≤ 640 * 2 ^ n
  | 0 => by simp [fst]
  | n + 1 => by
    have := fst_le h n
    have h2 := c0_le h n
    rw [fst, Nat.pow_succ]; omega
theorem outF_len (l : List Int) (n i : Nat) : (outF l n i).length = l.length := by simp [outF]
theorem getD_eq {l : List Int} {i : Nat} (h : i < l.length) : l.getD i 0 = l[i] := by simp [List.getD, List.getElem?_eq_getElem h]
theorem outF_hit {l : List Int} {n i : Nat} (h : i < l.length) (hn : 0 < n) (hi : l[i] = (n : Int)) : (outF l n i).set i ((fst l n + (l.take i).count (n : Int) : Nat) : Int) = outF l n (i + 1) := by
  apply List.ext_getElem
  · simp [outF]
  · intro j h1 h2
    have hj : j < l.length := by simpa [outF] using h1
    rw [List.getElem_set]
    simp only [outF, List.getElem_map, List.getElem_range]
    by_cases hij : i = j
    · subst hij
      have hc : cod l i = fst l n + (l.take i).count (n : Int) := by
        unfold cod
        rw [getD_eq h, hi, if_pos (by omega), Int.toNat_natCast]
      have hd : (0 < l.getD i 0 ∧ l.getD i 0 < (n : Int)) ∨ (l.getD i 0 = (n : Int) ∧ i < i + 1) := .inr ⟨by rw [getD_eq h, hi], by omega⟩
      rw [if_pos rfl, if_pos hd, hc]
    · rw [if_neg hij]
      have : (j < i + 1) ↔ (j < i) := by omega
      simp only [this]
theorem outF_miss {l : List Int} {n i : Nat} (h : i < l.length) (hi : l[i] ≠ (n : Int)) : outF l n i = outF l n (i + 1) := by
  unfold outF
  apply List.map_congr_left
  intro j hj
  have hj' := List.mem_range.1 hj
  by_cases hij : j = i
  · subst hij
    have : ¬ l.getD j 0 = (n : Int) := by rw [getD_eq h]; exact hi
    simp only [this, false_and, or_false]
  · have : (j < i + 1) ↔ (j < i) := by omega
    simp only [this]
theorem outF_next {l : List Int} {n : Nat} (hn : 0 < n) : outF l n l.length = outF l (n + 1) 0 := by
  unfold outF
  apply List.map_congr_left
  intro j hj
  have hj' := List.mem_range.1 hj
  have h1 : ((0 < l.getD j 0 ∧ l.getD j 0 < (n : Int)) ∨ (l.getD j 0 = (n : Int) ∧ j < l.length)) ↔ ((0 < l.getD j 0 ∧ l.getD j 0 < ((n + 1 : Nat) : Int)) ∨ (l.getD j 0 = ((n + 1 : Nat) : Int) ∧ j < 0)) := by
    constructor
    · rintro (⟨a, b⟩ | ⟨a, b⟩)
      · exact .inl ⟨a, by omega⟩
      · exact .inl ⟨by omega, by omega⟩
    · rintro (⟨a, b⟩ | ⟨a, b⟩)
      · by_cases hc : l.getD j 0 < (n : Int)
        · exact .inl ⟨a, hc⟩
        · exact .inr ⟨by omega, hj'⟩
      · omega
  simp only [h1]
theorem c0_pos {l : List Int} {n : Nat} (h : 0 < n) : c0 l n = l.count (n : Int) := by unfold c0; rw [if_neg (by omega)]

theorem refCodes_l2 (K : Nat) (g : List Int → Int → Int → Res (List Int × Int)) (l : List Int) (n : Nat) (hl : l.length ≤ 320) (hn : 0 < n) (hn16 : n < 16) : ∀ j k i, i + j = l.length → j < k →
    mortiseref06_Codes.l2 K g l n k (outF l n i) ((fst l n + (l.take i).count (n : Int) : Nat) : Int) (i : Int) = g (outF l (n + 1) 0) ((fst l n + c0 l n : Nat) : Int) ((n + 1 : Nat) : Int)
  | _, 0, _, _, h => by omega
  | 0, k + 1, i, hi, _ => by
    rw [mortiseref06_Codes.l2]
    have h1 : decide ((i : Int) < (l.length : Int)) = false := by simp only [decide_eq_false_iff_not]; omega
    have e : w64 ((n : Int) + 1) = ((n + 1 : Nat) : Int) := by rw [w64_id (by omega) (by omega)]; push_cast; rfl
    rw [h1, cond_false, List.take_of_length_le (by omega), c0_pos hn, ← outF_next hn]
    have : i = l.length := by omega
    subst this
    simp only [lt_eq, e]
  | j + 1, k + 1, i, hi, hk => by
    rw [mortiseref06_Codes.l2]
    have hil : i < l.length := by omega
    have h1 : decide ((i : Int) < (l.length : Int)) = true := by simp only [decide_eq_true_eq]; omega
    rw [h1, cond_true, inb_nat hil]
    simp only [chk_true, lt_eq, rd_nat hil]
    have e : w64 ((i : Int) + 1) = ((i + 1 : Nat) : Int) := by rw [w64_id (by omega) (by omega)]; push_cast; rfl
    have IH := refCodes_l2 K g l n hl hn hn16 j k (i + 1) (by omega) (by omega)
    rw [take_succ' hil, List.count_append] at IH
    by_cases hx : l[i] = (n : Int)
    · have h2 : (l[i] == (n : Int)) = true := by simpa using hx
      rw [h2, cond_true, inb_nat (by rw [outF_len]; exact hil)]
      have hf := fst_le hl n
      have hp : 2 ^ n ≤ 2 ^ 15 := Nat.pow_le_pow_right (by decide) (by omega)
      have hc : (l.take i).count (n : Int) ≤ 320 := Nat.le_trans List.count_le_length (by simp; omega)
      have e2 : w64 (((fst l n + (l.take i).count (n : Int) : Nat) : Int) + 1) = ((fst l n + ((l.take i).count (n : Int) + 1) : Nat) : Int) := by rw [w64_id (by omega) (by omega)]; push_cast; omega
      simp only [chk_true, e, e2, Int.toNat_natCast, outF_hit hil hn hx]
      have : List.count (n : Int) [l[i]] = 1 := by rw [hx]; simp
      rw [this] at IH
      exact IH
    · have h2 : (l[i] == (n : Int)) = false := by simpa using hx
      rw [h2, cond_false, e, outF_miss hil hx]
      have : List.count (n : Int) [l[i]] = 0 := by
        rw [List.count_eq_zero]; simp; exact fun h => hx h.symm
      rw [this, Nat.add_zero] at IH
      exact IH
theorem outF_end {l : List Int} (h : okL l) : outF l 16 0 = codesL l := by
  unfold outF codesL
  apply List.map_congr_left
  intro j hj
  have hj' := List.mem_range.1 hj
  have hin := h.2 (l.getD j 0) (by rw [getD_eq hj']; exact List.getElem_mem _)
  obtain ⟨h0, h1⟩ := hin
  by_cases hx : 0 < l.getD j 0
  · rw [if_pos (.inl ⟨hx, by omega⟩)]
  · have : ¬ ((0 < l.getD j 0 ∧ l.getD j 0 < ((16 : Nat) : Int)) ∨ (l.getD j 0 = ((16 : Nat) : Int) ∧ j < 0)) := by omega
    rw [if_neg this]
    unfold cod
    rw [if_neg hx]; rfl
theorem refCodes_l1 (K : Nat) (l : List Int) (h : okL l) (hK : 320 < K) : ∀ j k, j ≤ 15 → j < k →
    mortiseref06_Codes.l1 K l k (outF l (16 - j) 0) ((fst l (15 - j) + c0 l (15 - j) : Nat) : Int) ((16 - j : Nat) : Int) = .ok (codesL l, 0)
  | _, 0, _, h => by omega
  | 0, k + 1, _, _ => by
    rw [mortiseref06_Codes.l1]
    have h1 : decide (((16 - 0 : Nat) : Int) ≤ 15) = false := by decide
    rw [h1, cond_false, Nat.sub_zero, outF_end h]
  | j + 1, k + 1, hj, hk => by
    rw [mortiseref06_Codes.l1]
    have hl := h.1
    generalize hn : 16 - (j + 1) = n
    have h1 : decide ((n : Int) ≤ 15) = true := by simp only [decide_eq_true_eq]; omega
    rw [h1, cond_true]
    have e15 : 15 - (j + 1) + 1 = n := by omega
    have hf := fst_le hl n
    have hp : 2 ^ n ≤ 2 ^ 15 := Nat.pow_le_pow_right (by decide) (by omega)
    have hfst : fst l n = 2 * (fst l (15 - (j + 1)) + c0 l (15 - (j + 1))) := by rw [← e15, fst]
    have e2 : w64 (((fst l (15 - (j + 1)) + c0 l (15 - (j + 1)) : Nat) : Int) * 2) = ((fst l n : Nat) : Int) := by rw [w64_id (by omega) (by omega)]; omega
    simp only [lt_eq, e2]
    have := refCodes_l2 K (mortiseref06_Codes.l1 K l k) l n hl (by omega) (by omega) l.length K 0 (by omega) (by omega)
    rw [List.take_zero, List.count_nil, Nat.add_zero] at this
    refine (show _ = _ from this).trans ?_
    have IH := refCodes_l1 K l h hK j k (by omega) (by omega)
    rw [show 16 - j = n + 1 by omega, show 15 - j = n by omega] at IH
    exact IH
/-- The document's codes. -/
theorem refCodes (K : Nat) (l : List Int) (hK : 320 < K) : mortiseref06_Codes.m K l = if sCheck l = 0 then .ok (codesL l, 0) else .ok ([], sCheck l) := by
  unfold mortiseref06_Codes.m
  rw [refCheck K l hK]
  simp only [Res.bind_ok]
  by_cases h : sCheck l = 0
  · have h1 : (sCheck l != 0) = false := by simpa using h
    rw [h1, cond_false, if_pos h]
    have hok : okL l := by
      apply Classical.byContradiction
      intro hn
      unfold sCheck at h
      rw [if_neg hn] at h; omega
    have hr : (decide ((0 : Int) ≤ (l.length : Int)) && room (Int.toNat (l.length : Int)) 8) = true := by
      have := hok.1
      simp only [room, Int.toNat_natCast, Bool.and_eq_true, decide_eq_true_eq]; omega
    rw [hr]
    simp only [chk_true, lt_eq, Int.toNat_natCast]
    have e : outF l (16 - 15) 0 = List.replicate l.length 0 := by
      unfold outF
      rw [List.eq_replicate_iff]
      refine ⟨by simp, fun x hx => ?_⟩
      obtain ⟨j, hj, rfl⟩ := List.mem_map.1 hx
      rw [if_neg (by omega)]
    have := refCodes_l1 K l hok hK 15 K (by omega) (by omega)
    rw [e] at this
    exact this
  · have h1 : (sCheck l != 0) = true := by simpa using h
    rw [h1, cond_true, if_neg h]
end Go.Pu

/- The program's table. -/
namespace Go.Pu
open Go Go.Sl Go.Mo

/-- The symbols of one length, below number i. -/
def idx (l : List Int) (n i : Nat) : List Int := ((List.range i).filter fun j => decide (l.getD j 0 = (n : Int))).map fun (j : Nat) => (j : Int)
/-- The symbols whose length is below n, ranged by lengths. -/
def symsU (l : List Int) : Nat → List Int
  | 0 => []
  | n + 1 => if n = 0 then [] else symsU l n ++ idx l n l.length
theorem idx_succ (l : List Int) (n i : Nat) : idx l n (i + 1) = if l.getD i 0 = (n : Int) then idx l n i ++ [(i : Int)] else idx l n i := by
  unfold idx
  rw [List.range_succ, List.filter_append, List.map_append, List.filter_cons]
  by_cases h : l.getD i 0 = (n : Int)
  · rw [if_pos (by simpa using h), if_pos h]; simp
  · rw [if_neg (by simpa using h), if_neg h]; simp
theorem sCheck_ok {l : List Int} (h : sCheck l = 0) : okL l := by
  apply Classical.byContradiction
  intro hn
  unfold sCheck at h
  rw [if_neg hn] at h; omega
end Go.Pu

/- The symbols of a code: where each stands. -/
namespace Go.Pu
open Go Go.Sl Go.Mo

theorem idx_length (l : List Int) (n : Nat) : ∀ i, i ≤ l.length → (idx l n i).length = (l.take i).count (n : Int)
  | 0, _ => by simp [idx]
  | i + 1, h => by
    have hil : i < l.length := by omega
    rw [idx_succ, take_succ' hil, List.count_append, getD_eq hil]
    have IH := idx_length l n i (by omega)
    by_cases hx : l[i] = (n : Int)
    · rw [if_pos hx, List.length_append, IH, hx]; simp
    · rw [if_neg hx, IH]
      have : List.count (n : Int) [l[i]] = 0 := by
        rw [List.count_eq_zero]; simp; exact fun h => hx h.symm
      omega
theorem idx_prefix (l : List Int) (n : Nat) {i : Nat} : ∀ j, i ≤ j → idx l n i <+: idx l n j
  | 0, h => by
    have : i = 0 := by omega
    subst this; exact List.prefix_refl _
  | j + 1, h => by
    by_cases hij : i = j + 1
    · subst hij; exact List.prefix_refl _
    · refine (idx_prefix l n j (by omega)).trans ?_
      rw [idx_succ]
      split
      · exact List.prefix_append _ _
      · exact List.prefix_refl _
/-- Where a symbol stands among those of its length. -/
theorem idx_at {l : List Int} {n i : Nat} (h : i < l.length) (hi : l[i] = (n : Int)) : (idx l n l.length)[(l.take i).count (n : Int)]? = some (i : Int) := by
  obtain ⟨r, hr⟩ := idx_prefix l n (i := i + 1) l.length (by omega)
  rw [← hr, idx_succ, getD_eq h, if_pos hi, ← idx_length l n i (by omega), List.append_assoc, List.getElem?_append_right (Nat.le_refl _), Nat.sub_self]
  rfl
/-- Codes of one length differ. -/
theorem cod_lt {l : List Int} {i n : Nat} (hi : i < l.length) (hl : l[i] = (n : Int)) (hn : 0 < n) : cod l i < fst l n + c0 l n ∧ fst l n ≤ cod l i := by
  unfold cod
  rw [getD_eq hi, hl, if_pos (by omega), Int.toNat_natCast]
  have h1 := idx_at hi hl
  have h2 := (List.getElem?_eq_some_iff.1 h1).1
  rw [idx_length l n l.length (Nat.le_refl _), List.take_length] at h2
  rw [c0_pos hn]; omega
end Go.Pu

/- When a code goes on. -/
namespace Go.Pu
open Go Go.Sl Go.Mo

theorem kraft (l : List Int) : ∀ n, n ≤ 15 → (fst l n + c0 l n) * 2 ^ (15 - n) = ks l (n + 1)
  | 0, _ => by simp [fst, ks, c0]
  | n + 1, h => by
    have IH := kraft l n (by omega)
    rw [ks, ← IH, fst]
    have e : 2 ^ (15 - n) = 2 * 2 ^ (15 - (n + 1)) := by rw [← Nat.pow_succ']; congr 1; omega
    rw [e, Nat.add_mul]
    congr 1
    rw [← Nat.mul_assoc, Nat.mul_comm (fst l n + c0 l n) 2]
/-- Lengths that a code has. -/
theorem sCheck_code {l : List Int} (h : sCheck l = 0) : nz l = [] ∨ nz l = [1] ∨ ks l 16 = 32768 := by
  unfold sCheck at h
  rw [if_pos (sCheck_ok (by unfold sCheck; exact h))] at h
  split at h
  · assumption
  · omega
theorem c0_nz {l : List Int} {n : Nat} (hn : 0 < n) : c0 l n = (nz l).count (n : Int) := by rw [c0_pos hn, nz_count hn]
end Go.Pu

/- The next symbol: the program's table. -/
namespace Go.Pu
open Go Go.Sl Go.Mo

def nextGo (l : List Int) (t : List UInt8) : Nat → Nat → Nat → Nat → Except Int (Nat × Nat)
  | 0, _, _, _ => .error 3
  | k + 1, n, v, p =>
    if (symsU l (n + 1)).length < (symsU l 16).length then
      if p + 1 ≤ 8 * t.length then
        if 2 * v + (bitB t p).toNat < fst l (n + 1) + c0 l (n + 1) then .ok (((symsU l 16).getD ((symsU l (n + 1)).length + (2 * v + (bitB t p).toNat) - fst l (n + 1)) 0).toNat, p + 1)
        else nextGo l t k (n + 1) (2 * v + (bitB t p).toNat) (p + 1)
      else .error 2
    else .error 3
def sNext (l : List Int) (t : List UInt8) (p : Nat) : Except Int (Nat × Nat) := nextGo l t 16 0 0 p

end Go.Pu

/- The next symbol, as the document reads it. -/
namespace Go.Pu
open Go Go.Sl Go.Mo

theorem codesL_len (l : List Int) : (codesL l).length = l.length := by simp [codesL]
/-- Number i is the symbol whose code v is, of n bits. -/
def hits (l : List Int) (n v i : Nat) : Prop := l.getD i 0 = (n : Int) ∧ 0 < n ∧ cod l i = v
/-- The code of number i begins with v, and is longer. -/
def leads (l : List Int) (n v i : Nat) : Prop := (n : Int) < l.getD i 0 ∧ cod l i / 2 ^ ((l.getD i 0).toNat - n) = v
instance (l : List Int) (n v i : Nat) : Decidable (hits l n v i) := inferInstanceAs (Decidable (_ ∧ _))
instance (l : List Int) (n v i : Nat) : Decidable (leads l n v i) := inferInstanceAs (Decidable (_ ∧ _))
theorem cod_small {l : List Int} (h : okL l) {i : Nat} (hi : i < l.length) : cod l i < 33554432 := by
  obtain ⟨h0, h1⟩ := h.2 l[i] (List.getElem_mem hi)
  obtain ⟨m, hm⟩ := Int.eq_ofNat_of_zero_le h0
  by_cases hm0 : m = 0
  · unfold cod
    rw [getD_eq hi, hm, hm0, if_neg (by omega)]; omega
  · have := (cod_lt hi hm (by omega)).1
    have h2 := fst_le h.1 m
    have h3 := c0_le h.1 m
    have hp : 2 ^ m ≤ 2 ^ 15 := Nat.pow_le_pow_right (by decide) (by omega)
    omega

end Go.Pu

/- The next symbol, as the document reads it: the outer rounds. -/
namespace Go.Pu
open Go Go.Sl Go.Mo

/-- The document's reader at the head of round n: a symbol of n bits, or on. -/
def headR (l : List Int) (t : List UInt8) (n v p : Nat) : Except Int (Nat × Nat) :=
  if 0 < n ∧ v < fst l n + c0 l n then .ok (((symsU l 16).getD ((symsU l n).length + v - fst l n) 0).toNat, p) else nextGo l t (16 - n) n v p

end Go.Pu

/- Huff: what stands live; the same lists; HuffReads. -/
namespace Go.Pu
open Go Go.Sl Go.Mo

end Go.Pu

/- Huff: the program's codes are the document's; HuffCodes. -/
namespace Go.Pu
open Go Go.Sl Go.Mo

def firstL (l : List Int) (n : Nat) : List Int := (List.range 16).map fun (j : Nat) => if 1 ≤ j ∧ j < n then (fst l j : Int) else 0
def nextL (l : List Int) (v : Nat) : List Int := (List.range 16).map fun (j : Nat) => if j = 0 then 0 else ((fst l j + (l.take v).count (j : Int) : Nat) : Int)
def outL (l : List Int) (v : Nat) : List Int := (List.range l.length).map fun (j : Nat) => if j < v then (cod l j : Int) else 0
theorem nextL_len (l : List Int) (n : Nat) : (nextL l n).length = 16 := by simp [nextL]
theorem outL_len (l : List Int) (n : Nat) : (outL l n).length = l.length := by simp [outL]
theorem map_range_set {α : Type} (f g : Nat → α) (m n : Nat) (x : α) (h1 : n < m → g n = x) (h2 : ∀ j, j ≠ n → g j = f j) : ((List.range m).map f).set n x = (List.range m).map g := by
  apply List.ext_getElem?
  intro j
  by_cases hj : n = j
  · subst hj
    by_cases hm : n < m
    · simp [hm, h1 hm]
    · rw [List.getElem?_eq_none (by simpa using hm), List.getElem?_eq_none (by simpa using hm)]
  · rw [List.getElem?_set_ne hj]
    simp only [List.getElem?_map]
    cases h : (List.range m)[j]? with
    | none => rfl
    | some y =>
      obtain ⟨_, hy⟩ := List.getElem?_eq_some_iff.1 h
      simp at hy
      subst hy
      simp [h2 j (fun e => hj e.symm)]

theorem firsts_l1 (K : Nat) (l : List Int) (hl : l.length ≤ 320) : ∀ (k n : Nat), 1 ≤ n → n ≤ 16 → 16 < n + k →
    huff_counted_firsts.l1 K (cs0 l) k (firstL l n) (fst l (n - 1) : Int) (n : Int) = .ok (firstL l 16) := by
  intro k
  induction k with
  | zero => intro n h1 h2 h3; omega
  | succ k ih =>
    intro n h1 h2 h3
    unfold huff_counted_firsts.l1
    by_cases h : n ≤ 15
    · have d1 : decide ((n : Int) ≤ (15 : Int)) = true := by simp only [decide_eq_true_eq]; omega
      have e1 : w64 ((n : Int) - 1) = ((n - 1 : Nat) : Int) := by rw [w64_id (by omega) (by omega)]; omega
      have hf := fst_le hl (n - 1)
      have hc := c0_le hl (n - 1)
      have hp : 2 ^ (n - 1) ≤ 2 ^ 14 := Nat.pow_le_pow_right (by decide) (by omega)
      have e2 : w64 ((fst l (n - 1) : Int) + (c0 l (n - 1) : Int)) = ((fst l (n - 1) + c0 l (n - 1) : Nat) : Int) := by rw [w64_id (by omega) (by omega)]; rfl
      have e3 : ishl .i64 ((fst l (n - 1) + c0 l (n - 1) : Nat) : Int) 1 = (fst l n : Int) := by
        have := ishl_i64 (a := fst l (n - 1) + c0 l (n - 1)) (n := 1) (by omega) (by omega)
        rw [show ((1 : Nat) : Int) = 1 from rfl] at this
        rw [this, show fst l n = 2 * (fst l (n - 1) + c0 l (n - 1)) by
          obtain ⟨m, rfl⟩ : ∃ m, n = m + 1 := ⟨n - 1, by omega⟩
          rfl, Nat.mul_comm]
      have e4 : w64 ((n : Int) + 1) = ((n + 1 : Nat) : Int) := by rw [w64_id (by omega) (by omega)]; rfl
      rw [d1, cond_true, e1, inb_nat (show n - 1 < 16 by omega), chk_true, rd_cs0 (show n - 1 < 16 by omega), e2, e3]
      simp only [lt_eq]
      rw [inb_nat (show n < 16 by omega), chk_true, e4]
      have := ih (n + 1) (by omega) (by omega) (by omega)
      rw [Nat.add_sub_cancel] at this
      rw [Int.toNat_natCast, firstL, map_range_set _ (fun (j : Nat) => if 1 ≤ j ∧ j < n + 1 then (fst l j : Int) else 0) 16 n _ (fun _ => by rw [if_pos (by omega)]) (fun j hj => by
        by_cases q : 1 ≤ j ∧ j < n
        · rw [if_pos q, if_pos (by omega)]
        · rw [if_neg q, if_neg (by omega)])]
      exact this
    · have d1 : decide ((n : Int) ≤ (15 : Int)) = false := by simp only [decide_eq_false_iff_not]; omega
      rw [d1, cond_false, show n = 16 by omega]
      rfl
theorem firsts (K : Nat) (l : List Int) (hl : l.length ≤ 320) (hK : 32 < K) : huff_counted_firsts.m K (cs0 l) = .ok (nextL l 0) := by
  unfold huff_counted_firsts.m
  have := firsts_l1 K l hl K 1 (by omega) (by omega) (by omega)
  rw [show firstL l 1 = List.replicate 16 0 by
    apply List.ext_getElem?
    intro j
    simp only [firstL, List.getElem?_map, List.getElem?_replicate]
    by_cases hj : j < 16
    · rw [List.getElem?_range hj, if_pos hj, Option.map_some, if_neg (by omega)]
    · rw [List.getElem?_eq_none (by simpa using hj), if_neg hj]; rfl] at this
  rw [show fst l (1 - 1) = 0 from rfl, show ((0 : Nat) : Int) = 0 from rfl, show ((1 : Nat) : Int) = 1 from rfl] at this
  rw [this]
  congr 1

theorem progCodes_l1 (K : Nat) (l : List Int) (hok : okL l) : ∀ (k v : Nat), v ≤ l.length → l.length < v + k → huff_Codes.l1 K l k (nextL l v) (outL l v) (v : Int) = .ok (codesL l, 0) := by
  intro k
  induction k with
  | zero => intro v h1 h2; omega
  | succ k ih =>
    intro v h1 h2
    have hl := hok.1
    unfold huff_Codes.l1
    by_cases h : v < l.length
    · have d1 : decide ((v : Int) < (l.length : Int)) = true := by simp only [decide_eq_true_eq]; omega
      have e1 : w64 ((v : Int) + 1) = ((v + 1 : Nat) : Int) := by rw [w64_id (by omega) (by omega)]; rfl
      obtain ⟨hx0, hx1⟩ := hok.2 l[v] (List.getElem_mem h)
      have ht : l.take (v + 1) = l.take v ++ [l[v]] := by rw [List.take_add_one, List.getElem?_eq_getElem h]; rfl
      have hg : l.getD v 0 = l[v] := getD_eq h
      have IH := ih (v + 1) (by omega) (by omega)
      rw [d1, cond_true, inb_nat h, chk_true]
      simp only [lt_eq, rd_nat h, e1]
      obtain ⟨n, hn⟩ := Int.eq_ofNat_of_zero_le hx0
      by_cases hp : 0 < n
      · have d2 : decide (l[v] > (0 : Int)) = true := by simp only [decide_eq_true_eq]; omega
        have hcl := cod_small hok h
        have hcod : cod l v = fst l n + (l.take v).count (n : Int) := by unfold cod; rw [hg, if_pos (by omega), hn, Int.toNat_natCast]
        have e2 : rd (nextL l v) (n : Int) = (cod l v : Int) := by
          rw [rd_nat (by rw [nextL_len]; omega)]
          simp only [nextL, List.getElem_map, List.getElem_range]
          rw [if_neg (by omega), hcod]
        have e3 : w64 ((cod l v : Int) + 1) = ((cod l v + 1 : Nat) : Int) := by rw [w64_id (by omega) (by omega)]; rfl
        rw [d2, cond_true, hn, inb_nat (show n < 16 by omega), chk_true, inb_nat (by rw [outL_len]; exact h), chk_true, e2, e3]
        rw [Int.toNat_natCast, Int.toNat_natCast]
        rw [show (outL l v).set v (cod l v : Int) = outL l (v + 1) from map_range_set _ _ _ _ _ (fun _ => by rw [if_pos (by omega)]) (fun j hj => by
          by_cases q : j < v
          · rw [if_pos q, if_pos (by omega)]
          · rw [if_neg q, if_neg (by omega)])]
        rw [show (nextL l v).set n ((cod l v + 1 : Nat) : Int) = nextL l (v + 1) from map_range_set _ _ _ _ _ (fun _ => by
          rw [if_neg (by omega), ht, List.count_append, hcod, hn]; simp; omega) (fun j hj => by
          by_cases q : j = 0
          · rw [if_pos q, if_pos q]
          · rw [if_neg q, if_neg q, ht, List.count_append, hn]
            rw [List.count_singleton, if_neg (by simpa using fun e => hj (by omega))]; rfl)]
        exact IH
      · have d2 : decide (l[v] > (0 : Int)) = false := by simp only [decide_eq_false_iff_not]; omega
        rw [d2, cond_false]
        have h0 : l[v] = 0 := by omega
        rw [show nextL l (v + 1) = nextL l v by
          unfold nextL
          apply List.map_congr_left
          intro j _
          by_cases q : j = 0
          · rw [if_pos q, if_pos q]
          · rw [if_neg q, if_neg q, ht, List.count_append, h0, List.count_singleton, if_neg (by simp; omega)]; rfl,
          show outL l (v + 1) = outL l v by
          unfold outL
          apply List.map_congr_left
          intro j _
          by_cases q : j < v
          · rw [if_pos q, if_pos (by omega)]
          · rw [if_neg q]
            by_cases q2 : j = v
            · subst q2
              rw [if_pos (by omega)]; unfold cod; rw [hg, h0, if_neg (by omega)]; rfl
            · rw [if_neg (by omega)]] at IH
        exact IH
    · have d1 : decide ((v : Int) < (l.length : Int)) = false := by simp only [decide_eq_false_iff_not]; omega
      rw [d1, cond_false]
      have : outL l v = codesL l := by
        unfold outL codesL
        apply List.map_congr_left
        intro j hj
        have : j < l.length := by simpa using hj
        rw [if_pos (by omega)]
      rw [this]
theorem progCodes (K : Nat) (l : List Int) (hK : 320 < K) : huff_Codes.m K l = if sCheck l = 0 then .ok (codesL l, 0) else .ok ([], sCheck l) := by
  unfold huff_Codes.m
  rw [progCheck K l hK]
  simp only [Res.bind_ok]
  by_cases h : sCheck l = 0
  · have h1 : (sCheck l != 0) = false := by simpa using h
    have hok := sCheck_ok h
    have hl := hok.1
    rw [h1, cond_false, if_pos h, (progCount K l hK).1 hok]
    simp only [Res.bind_ok]
    rw [firsts K l hl (by omega)]
    simp only [Res.bind_ok, Int.toNat_natCast]
    have h2 : (decide (0 ≤ (l.length : Int)) && room l.length 8) = true := by
      rw [Bool.and_eq_true, decide_eq_true_eq]
      refine ⟨by omega, ?_⟩
      simp only [room, decide_eq_true_eq]; omega
    rw [h2, chk_true]
    simp only [lt_eq]
    have := progCodes_l1 K l hok K 0 (by omega) (by omega)
    rw [show outL l 0 = List.replicate l.length 0 by
      apply List.ext_getElem?
      intro j
      simp only [outL, List.getElem?_map, List.getElem?_replicate]
      by_cases hj : j < l.length
      · rw [List.getElem?_range hj, if_pos hj, Option.map_some, if_neg (by omega)]
      · rw [List.getElem?_eq_none (by simpa using hj), if_neg hj]; rfl] at this
    exact this
  · have h1 : (sCheck l != 0) = true := by simpa using h
    rw [h1, cond_true, if_neg h]

end Go.Pu

/- Huff: no code begins with another one; HuffApart. -/
namespace Go.Pu
open Go Go.Sl Go.Mo

end Go.Pu

/- Bits in bytes. -/
namespace Go.Pu
open Go Go.Sl Go.Mo
/-- A number's lowest bits, the lowest first. -/
def bitsOf : Nat → Nat → List Int
  | 0, _ => []
  | n + 1, v => ((v % 2 : Nat) : Int) :: bitsOf n (v / 2)
theorem bitsOf_len : ∀ n v, (bitsOf n v).length = n
  | 0, _ => rfl
  | n + 1, v => by rw [bitsOf, List.length_cons, bitsOf_len n]
def bit01 (B : List Int) : Prop := ∀ b ∈ B, b = 0 ∨ b = 1
theorem bitsOf_01 : ∀ n v, bit01 (bitsOf n v)
  | 0, _ => by intro b hb; cases hb
  | n + 1, v => by
    intro b hb
    rw [bitsOf] at hb
    rcases List.mem_cons.1 hb with rfl | hb
    · omega
    · exact bitsOf_01 n _ b hb
theorem bit01_app {a b : List Int} (h1 : bit01 a) (h2 : bit01 b) : bit01 (a ++ b) := by
  intro x hx
  rcases List.mem_append.1 hx with h | h
  · exact h1 x h
  · exact h2 x h
theorem bitsOf_add : ∀ n m v, bitsOf (n + m) v = bitsOf n v ++ bitsOf m (v / 2 ^ n)
  | 0, m, v => by simp [bitsOf]
  | n + 1, m, v => by
    rw [show n + 1 + m = (n + m) + 1 by omega, bitsOf, bitsOf, bitsOf_add n m, List.cons_append, Nat.div_div_eq_div_mul, ← Nat.pow_succ']
theorem bitsOf_mod : ∀ n v k, n ≤ k → bitsOf n (v % 2 ^ k) = bitsOf n v
  | 0, _, _, _ => rfl
  | n + 1, v, k, h => by
    obtain ⟨j, rfl⟩ : ∃ j, k = j + 1 := ⟨k - 1, by omega⟩
    rw [bitsOf, bitsOf]
    have e1 : v % 2 ^ (j + 1) % 2 = v % 2 := by rw [Nat.pow_succ']; exact Nat.mod_mul_right_mod v 2 (2 ^ j)
    have e2 : v % 2 ^ (j + 1) / 2 = v / 2 % 2 ^ j := by rw [Nat.pow_succ', Nat.mod_mul_right_div_self]
    rw [e1, e2, bitsOf_mod n _ j (by omega)]
def nB (B : List Int) (p : Nat) : Nat → Nat
  | 0 => 0
  | n + 1 => nB B p n + (B.getD (p + n) 0).toNat * 2 ^ n
theorem getD_01 {B : List Int} (h : bit01 B) (i : Nat) : B.getD i 0 = 0 ∨ B.getD i 0 = 1 := by
  by_cases hi : i < B.length
  · rw [getD_eq hi]; exact h _ (List.getElem_mem hi)
  · left
    rw [List.getD_eq_getElem?_getD, List.getElem?_eq_none (by omega)]; rfl
theorem nB_lt {B : List Int} (h : bit01 B) (p : Nat) : ∀ n, nB B p n < 2 ^ n
  | 0 => by simp [nB]
  | n + 1 => by
    have := nB_lt h p n
    rw [nB, Nat.pow_succ]
    rcases getD_01 h (p + n) with h1 | h1 <;> rw [h1] <;> simp <;> omega
theorem nB_more {B : List Int} (p : Nat) : ∀ n m, n ≤ m → B.length ≤ p + n → nB B p m = nB B p n
  | n, 0, h, _ => by
    have : n = 0 := by omega
    rw [this]
  | n, m + 1, h, hl => by
    by_cases hn : n = m + 1
    · rw [hn]
    · rw [nB, nB_more p n m (by omega) hl, List.getD_eq_getElem?_getD, List.getElem?_eq_none (by omega)]
      simp
def packB (B : List Int) : List UInt8 := (List.range ((B.length + 7) / 8)).map fun j => UInt8.ofNat (nB B (8 * j) 8)
theorem ishl_u8 {a n : Nat} (hn : n ≤ 8) (h : a * 2 ^ n < 256) : ishl .u8 (a : Int) (n : Int) = ((a * 2 ^ n : Nat) : Int) := by
  unfold ishl
  rw [Int.toNat_natCast, show min n IntKind.u8.bits = n from Nat.min_eq_left hn]
  have e : (a : Int) * 2 ^ n = ((a * 2 ^ n : Nat) : Int) := by push_cast; rfl
  rw [e]
  exact wru8_id (by omega) (by omega)
/-- Bytes, as bits, as bytes. -/
theorem nB_app (A B : List Int) (p : Nat) : ∀ n, nB (A ++ B) (A.length + p) n = nB B p n
  | 0 => rfl
  | n + 1 => by
    rw [nB, nB, nB_app A B p n, Nat.add_assoc, List.getD_eq_getElem?_getD, List.getD_eq_getElem?_getD, List.getElem?_append_right (by omega), Nat.add_sub_cancel_left]
theorem nB_bitsOf (R : List Int) : ∀ n v, nB (bitsOf n v ++ R) 0 n = v % 2 ^ n := by
  have key : ∀ n v k, k ≤ n → nB (bitsOf n v ++ R) 0 k = v % 2 ^ k := by
    intro n v k
    induction k with
    | zero => intro _; simp [nB, Nat.mod_one]
    | succ k ih =>
      intro h
      rw [nB, ih (by omega), Nat.zero_add]
      have e : (bitsOf n v ++ R).getD k 0 = ((v / 2 ^ k % 2 : Nat) : Int) := by
        rw [show n = k + (n - k) by omega, bitsOf_add, List.append_assoc, List.getD_eq_getElem?_getD, List.getElem?_append_right (by rw [bitsOf_len]; omega), bitsOf_len, Nat.sub_self, show n - k = (n - k - 1) + 1 by omega, bitsOf]
        rfl
      rw [e, Int.toNat_natCast, Nat.mod_pow_succ, Nat.mul_comm]
  intro n v
  exact key n v n (Nat.le_refl _)
end Go.Pu

/- Huff: a code that is written is read. -/
namespace Go.Pu
open Go Go.Sl Go.Mo

/-- The bits as bytes, the last one filled up with zeroes. -/
def bytB (B : List Int) : List Int := (List.range ((B.length + 7) / 8)).map fun j => ((nB B (8 * j) 8 : Nat) : Int)
theorem bytB_len (B : List Int) : (bytB B).length = (B.length + 7) / 8 := by simp [bytB]
theorem bytB_rd {B : List Int} {j : Nat} (h : j < (B.length + 7) / 8) : rd (bytB B) (j : Int) = ((nB B (8 * j) 8 : Nat) : Int) := by
  rw [rd_nat (by rw [bytB_len]; exact h)]
  simp [bytB]
theorem bytB_pack (B : List Int) : (bytB B).map tob = packB B := by
  unfold bytB packB
  rw [List.map_map]
  apply List.map_congr_left
  intro j _
  simp [tob]
theorem nB_left (A C : List Int) (p : Nat) : ∀ n, p + n ≤ A.length → nB (A ++ C) p n = nB A p n
  | 0, _ => rfl
  | n + 1, h => by
    rw [nB, nB, nB_left A C p n (by omega), List.getD_eq_getElem?_getD, List.getD_eq_getElem?_getD, List.getElem?_append_left (by omega)]
theorem and7 (p : Nat) (hp : p < 9223372036854775808) : iand .i64 (p : Int) 7 = ((p % 8 : Nat) : Int) := by
  have := iand_i64 (a := p) (b := 7) hp (by omega)
  rw [show ((7 : Nat) : Int) = 7 from rfl] at this
  rw [this, show p &&& 7 = p % 8 from Nat.and_two_pow_sub_one_eq_mod p 3]
theorem ior_u8 {a b : Nat} (ha : a < 256) (hb : b < 256) : ior .u8 (a : Int) (b : Int) = ((a ||| b : Nat) : Int) := by
  show IntKind.u8.wrap ((BitVec.ofInt 8 (a : Int) ||| BitVec.ofInt 8 (b : Int)).toNat : Int) = _
  simp only [ofInt_nat, BitVec.toNat_or, BitVec.toNat_ofNat]
  rw [Nat.mod_eq_of_lt (by omega), Nat.mod_eq_of_lt (by omega)]
  have : a ||| b < 2 ^ 8 := Nat.or_lt_two_pow (by omega) (by omega)
  exact wru8_id (by omega) (by omega)

/-- The bits of a code, the highest first. -/
def cb : Nat → Nat → List Int
  | 0, _ => []
  | n + 1, c => ((c / 2 ^ n % 2 : Nat) : Int) :: cb n c
theorem cb_len : ∀ n c, (cb n c).length = n
  | 0, _ => rfl
  | n + 1, c => by rw [cb, List.length_cons, cb_len n]
theorem cb_01 : ∀ n c, bit01 (cb n c)
  | 0, _ => by intro b hb; cases hb
  | n + 1, c => by
    intro b hb
    rw [cb] at hb
    rcases List.mem_cons.1 hb with rfl | hb
    · omega
    · exact cb_01 n c b hb
theorem ks_up (l : List Int) (i : Nat) : ∀ d, ks l i ≤ ks l (i + d)
  | 0 => Nat.le_refl _
  | d + 1 => Nat.le_trans (ks_up l i d) (by rw [← Nat.add_assoc, ks]; exact Nat.le_add_right _ _)
theorem ks_top {l : List Int} (h : sCheck l = 0) : ks l 16 ≤ 32768 := by
  rcases sCheck_code h with hz | hz | hz
  · rw [(ks_zero (sCheck_ok h)).2 hz]; omega
  · have hc : ∀ i, c0 l i = if i = 1 then 1 else 0 := by
      intro i
      by_cases h0 : 0 < i
      · rw [c0_nz h0, hz, List.count_singleton]
        by_cases h1 : i = 1
        · subst h1; rfl
        · rw [if_neg h1, if_neg (by simp; omega)]
      · rw [show i = 0 by omega]; rfl
    have : ∀ i, ks l i = if i ≤ 1 then 0 else 16384 := by
      intro i
      induction i with
      | zero => rfl
      | succ i ih =>
        rw [ks, ih, hc]
        by_cases h1 : i = 1
        · subst h1; rfl
        · rw [if_neg h1]
          by_cases h2 : i ≤ 1
          · rw [if_pos h2, if_pos (by omega)]; omega
          · rw [if_neg h2, if_neg (by omega)]; omega
    rw [this]; decide
  · omega
theorem cod_top {l : List Int} (h : sCheck l = 0) {s n : Nat} (hs : s < l.length) (hl : l[s] = (n : Int)) (hn : 0 < n) : cod l s < 2 ^ n := by
  have hok := sCheck_ok h
  have hn15 : n ≤ 15 := by have := (hok.2 l[s] (List.getElem_mem hs)).2; omega
  have h1 := (cod_lt hs hl hn).1
  have h2 := kraft l n hn15
  have h3 : ks l (n + 1) ≤ 32768 := by
    have := ks_up l (n + 1) (15 - n)
    rw [show n + 1 + (15 - n) = 16 by omega] at this
    exact Nat.le_trans this (ks_top h)
  have h4 : 2 ^ n * 2 ^ (15 - n) = 32768 := by rw [← Nat.pow_add, show n + (15 - n) = 15 by omega]
  have h5 : fst l n + c0 l n ≤ 2 ^ n := Nat.le_of_mul_le_mul_right (by omega) (Nat.pow_pos (n := 15 - n) (show 0 < 2 by decide))
  omega

/-- The bits of the symbol s. -/
def sb (l : List Int) (s : Nat) : List Int := cb (l.getD s 0).toNat (cod l s)
end Go.Pu

/- Small rules of conditions and bounds, for plain proofs. -/
namespace Go.Pu
open Go Go.Sl Go.Mo

theorem inb_of {i : Int} {n : Nat} (h0 : 0 ≤ i) (h1 : i < (n : Int)) : inb i n = true := inb_iff.2 ⟨h0, h1⟩
theorem subok_of {lo hi : Int} {n : Nat} (h0 : 0 ≤ lo) (h1 : lo ≤ hi) (h2 : hi ≤ (n : Int)) : subok lo hi n = true := subok_iff.2 ⟨h0, h1, h2⟩
theorem room_of {n k : Nat} (h : n * k ≤ 140737488355328) : room n k = true := decide_eq_true h
theorem fits_of {n : Nat} (h : n ≤ 9223372036854775807) : fits n = true := decide_eq_true h
theorem dec_nn {x : Int} (h : 0 ≤ x) : decide (0 ≤ x) = true := decide_eq_true h
section
variable {α : Type}
theorem cond_dec {p : Prop} [Decidable p] (a b : α) : cond (decide p) a b = if p then a else b := by
  by_cases h : p <;> simp [h]
theorem cond_beq {x y : Int} (a b : α) : cond (x == y) a b = if x = y then a else b := by
  by_cases h : x = y
  · rw [if_pos h, beq_iff_eq.2 h]; rfl
  · rw [if_neg h, beq_eq_false_iff_ne.2 h]; rfl
theorem cond_bne {x y : Int} (a b : α) : cond (x != y) a b = if x = y then b else a := by
  by_cases h : x = y
  · rw [if_pos h, bne_eq_false_iff_eq.2 h]; rfl
  · rw [if_neg h, bne_iff_ne.2 h]; rfl
theorem cond_not (x : Bool) (a b : α) : cond (!x) a b = cond x b a := by cases x <;> rfl
theorem cond_and (x y : Bool) (a b : α) : cond (x && y) a b = cond x (cond y a b) b := by cases x <;> rfl
theorem cond_or (x y : Bool) (a b : α) : cond (x || y) a b = cond x a (cond y a b) := by cases x <;> rfl
end
end Go.Pu

/- Small facts: parts of lists, bytes. -/
namespace Go.Pu
open Go Go.Sl Go.Mo

end Go.Pu

/- The writer of bits: a number's lowest bits. -/
set_option maxRecDepth 100000
namespace Go.Pu
open Go Go.Sl Go.Mo

theorem nB_split (B : List Int) (p a : Nat) : ∀ b, nB B p (a + b) = nB B p a + 2 ^ a * nB B (p + a) b
  | 0 => by simp [nB]
  | b + 1 => by
    rw [← Nat.add_assoc, nB, nB_split B p a b, nB, Nat.mul_add, Nat.pow_add, Nat.add_assoc p a b]
    have : 2 ^ a * ((B.getD (p + (a + b)) 0).toNat * 2 ^ b) = (B.getD (p + (a + b)) 0).toNat * (2 ^ a * 2 ^ b) := by
      rw [Nat.mul_left_comm]
    omega
theorem nB_end {B : List Int} {n v : Nat} (hr : B.length % 8 + n ≤ 8) (hv : v < 2 ^ n) : nB (B ++ bitsOf n v) (8 * (B.length / 8)) 8 = nB B (8 * (B.length / 8)) 8 + v * 2 ^ (B.length % 8) := by
  have e0 : 8 * (B.length / 8) + B.length % 8 = B.length := by omega
  have h1 := nB_split (B ++ bitsOf n v) (8 * (B.length / 8)) (B.length % 8) (8 - B.length % 8)
  have h0 := nB_left B (bitsOf n v) (8 * (B.length / 8)) (B.length % 8) (by omega)
  rw [show B.length % 8 + (8 - B.length % 8) = 8 from by omega, h0, e0] at h1
  have h2 := nB_app B (bitsOf n v) 0 (8 - B.length % 8)
  rw [Nat.add_zero] at h2
  have h3 : nB (bitsOf n v) 0 (8 - B.length % 8) = nB (bitsOf n v) 0 n := nB_more 0 n _ (by omega) (by rw [bitsOf_len]; omega)
  have h4 := nB_bitsOf [] n v
  rw [List.append_nil, Nat.mod_eq_of_lt hv] at h4
  rw [h1, h2, h3, h4, nB_more (8 * (B.length / 8)) (B.length % 8) 8 (by omega) (by omega), Nat.mul_comm v]
theorem nB_endOr {B : List Int} (h : bit01 B) {n v : Nat} (hr : B.length % 8 + n ≤ 8) (hv : v < 2 ^ n) : nB (B ++ bitsOf n v) (8 * (B.length / 8)) 8 = nB B (8 * (B.length / 8)) 8 ||| v * 2 ^ (B.length % 8) := by
  rw [nB_end hr hv, nB_more (8 * (B.length / 8)) (B.length % 8) 8 (by omega) (by omega)]
  have hlt := nB_lt h (8 * (B.length / 8)) (B.length % 8)
  have := Nat.two_pow_add_eq_or_of_lt (i := B.length % 8) (b := nB B (8 * (B.length / 8)) (B.length % 8)) hlt v
  rw [Nat.mul_comm v, Nat.add_comm, this, Nat.or_comm]
theorem bytB_putN {B : List Int} (h : bit01 B) {n v : Nat} (hn : 1 ≤ n) (hr : B.length % 8 + n ≤ 8) (hv : v < 2 ^ n) :
    (if B.length % 8 = 0 then bytB B ++ [0] else bytB B).set (B.length / 8) ((nB B (8 * (B.length / 8)) 8 ||| v * 2 ^ (B.length % 8) : Nat) : Int) = bytB (B ++ bitsOf n v) := by
  have hl : ((B ++ bitsOf n v).length + 7) / 8 = B.length / 8 + 1 := by rw [List.length_append, bitsOf_len]; omega
  have other : ∀ j, j < B.length / 8 → nB (B ++ bitsOf n v) (8 * j) 8 = nB B (8 * j) 8 := fun j hj => nB_left B _ _ _ (by omega)
  unfold bytB
  rw [hl]
  split
  · rename_i h0
    rw [show (B.length + 7) / 8 = B.length / 8 by omega, List.range_succ, List.map_append]
    apply List.ext_getElem?
    intro j
    by_cases hj : B.length / 8 = j
    · subst hj
      rw [List.getElem?_set_self (by simp), List.getElem?_append_right (by simp)]
      simp [nB_endOr h hr hv]
    · rw [List.getElem?_set_ne hj]
      by_cases hlt : j < B.length / 8
      · rw [List.getElem?_append_left (by simpa using hlt), List.getElem?_append_left (by simpa using hlt)]
        simp only [List.getElem?_map, List.getElem?_range hlt, Option.map_some, other j hlt]
      · rw [List.getElem?_append_right (by simpa using Nat.le_of_not_lt hlt), List.getElem?_append_right (by simpa using Nat.le_of_not_lt hlt)]
        rw [List.getElem?_eq_none (by simp; omega), List.getElem?_eq_none (by simp; omega)]
  · rename_i h0
    rw [show (B.length + 7) / 8 = B.length / 8 + 1 by omega]
    apply List.ext_getElem?
    intro j
    by_cases hj : B.length / 8 = j
    · subst hj
      rw [List.getElem?_set_self (by simp), List.getElem?_map, List.getElem?_range (by omega), Option.map_some, nB_endOr h hr hv]
    · rw [List.getElem?_set_ne hj]
      by_cases hlt : j < B.length / 8
      · simp only [List.getElem?_map, List.getElem?_range (show j < B.length / 8 + 1 by omega), Option.map_some, other j hlt]
      · rw [List.getElem?_eq_none (by simp; omega), List.getElem?_eq_none (by simp; omega)]
theorem iand_u32 {a b : Nat} (ha : a < 4294967296) (hb : b < 4294967296) : iand .u32 (a : Int) (b : Int) = ((a &&& b : Nat) : Int) := by
  show IntKind.u32.wrap ((BitVec.ofInt 32 (a : Int) &&& BitVec.ofInt 32 (b : Int)).toNat : Int) = _
  simp only [ofInt_nat, BitVec.toNat_and, BitVec.toNat_ofNat]
  rw [Nat.mod_eq_of_lt (by omega), Nat.mod_eq_of_lt (by omega)]
  have : a &&& b ≤ a := Nat.and_le_left
  exact wru32_id (by omega) (by omega)

/-- What is put stands behind what was put. -/
theorem putLoop (K : Nat) : ∀ (k n : Nat) (v : Nat) (B : List Int), bit01 B → n < k → n ≤ 32 → v < 2 ^ n → B.length + n < 1099511627776 →
    bits_Writer_Put_deflate_writer.l1 K k (B.length : Int) (bytB B) (v : Int) (n : Int) = .ok (0, ((B ++ bitsOf n v).length : Int), bytB (B ++ bitsOf n v)) := by
  intro k
  induction k with
  | zero => intro n v B _ h; omega
  | succ k ih =>
    intro n v B h hk hn hv hl
    rw [bits_Writer_Put_deflate_writer.l1, cond_dec]
    by_cases hn0 : n = 0
    · subst hn0
      rw [if_neg (by omega)]
      simp [bitsOf]
    rw [if_pos (by omega), and7 B.length (by omega)]
    have e8 : iquo .i64 (B.length : Int) 8 = ((B.length / 8 : Nat) : Int) := by
      have := iquo_nat (a := B.length) (b := 8) (by omega) (by omega)
      rwa [show ((8 : Nat) : Int) = 8 from rfl] at this
    obtain ⟨m, hm⟩ : ∃ m, min n (8 - B.length % 8) = m := ⟨_, rfl⟩
    have hm1 : 1 ≤ m := by omega
    have hp32 : 2 ^ n ≤ 2 ^ 32 := Nat.pow_le_pow_right (by decide) hn
    have hpm : 2 ^ m ≤ 2 ^ 8 := Nat.pow_le_pow_right (by decide) (by omega)
    have hpm1 : 1 ≤ 2 ^ m := Nat.one_le_two_pow
    have hv32 : v < 4294967296 := by omega
    have step : ∀ W : List Int, W = (if B.length % 8 = 0 then bytB B ++ [0] else bytB B) →
        bits_Writer_Put_deflate_writer.j2 K (bits_Writer_Put_deflate_writer.l1 K k) (B.length : Int) (v : Int) (n : Int) W = .ok (0, ((B ++ bitsOf n v).length : Int), bytB (B ++ bitsOf n v)) := by
      intro W hW
      have hWl : W.length = B.length / 8 + 1 := by
        rw [hW]; split
        · rw [List.length_append, bytB_len]; simp; omega
        · rw [bytB_len]; omega
      have hWr : rd W ((B.length / 8 : Nat) : Int) = ((nB B (8 * (B.length / 8)) 8 : Nat) : Int) := by
        rw [hW]; split
        · rename_i h0
          rw [rd_nat (by rw [List.length_append, bytB_len]; simp; omega), List.getElem_append_right (by rw [bytB_len]; omega)]
          rw [nB_more _ 0 8 (by omega) (by omega)]
          simp [nB]
        · rename_i h0
          exact bytB_rd (by omega)
      unfold bits_Writer_Put_deflate_writer.j2
      rw [and7 B.length (by omega), e8]
      have e1 : w64 ((8 : Int) - ((B.length % 8 : Nat) : Int)) = ((8 - B.length % 8 : Nat) : Int) := by rw [w64_id (by omega) (by omega)]; omega
      have e2 : (if (n : Int) < ((8 - B.length % 8 : Nat) : Int) then (n : Int) else ((8 - B.length % 8 : Nat) : Int)) = (m : Int) := by split <;> omega
      rw [e1, e2, lt_eq, inb_nat (by rw [hWl]; omega), chk_true, dec_nn (by omega), chk_true, dec_nn (by omega), chk_true, hWr, Int.toNat_natCast, lt_eq]
      have e3 : ishl .u32 1 (m : Int) = ((2 ^ m : Nat) : Int) := by
        have := ishl_u32 (a := 1) (n := m) (by omega) (by omega)
        rw [show ((1 : Nat) : Int) = 1 from rfl] at this
        rw [this, Nat.one_mul]
      have e4 : wr .u8 (iand .u32 (v : Int) (wr .u32 (ishl .u32 1 (m : Int) - 1))) = ((v % 2 ^ m : Nat) : Int) := by
        rw [e3, show (((2 ^ m : Nat) : Int) - 1) = ((2 ^ m - 1 : Nat) : Int) from by omega, wru32_id (by omega) (by omega), iand_u32 hv32 (by omega), Nat.and_two_pow_sub_one_eq_mod]
        have := Nat.mod_lt v (show 2 ^ m > 0 from by omega)
        exact wru8_id (by omega) (by omega)
      have hvm := Nat.mod_lt v (show 2 ^ m > 0 from by omega)
      have hlt := nB_lt h (8 * (B.length / 8)) 8
      have hp8 : v % 2 ^ m * 2 ^ (B.length % 8) < 256 := by
        have h1 : v % 2 ^ m * 2 ^ (B.length % 8) < 2 ^ m * 2 ^ (B.length % 8) := Nat.mul_lt_mul_of_pos_right hvm (Nat.two_pow_pos _)
        rw [← Nat.pow_add] at h1
        have h2 : 2 ^ (m + B.length % 8) ≤ 2 ^ 8 := Nat.pow_le_pow_right (by decide) (by omega)
        omega
      have e5 : ishr .u32 (v : Int) (m : Int) = ((v / 2 ^ m : Nat) : Int) := ishr_nat (by show m ≤ 32; omega)
      rw [e4, ishl_u8 (by omega) hp8, ior_u8 (by omega) hp8, hW, bytB_putN h hm1 (by omega) hvm, e5, lt_eq, lt_eq]
      have e6 : w64 ((n : Int) - (m : Int)) = ((n - m : Nat) : Int) := by rw [w64_id (by omega) (by omega)]; omega
      have e7 : w64 ((B.length : Int) + (m : Int)) = ((B ++ bitsOf m (v % 2 ^ m)).length : Int) := by rw [w64_id (by omega) (by omega), List.length_append, bitsOf_len]; omega
      have hdiv : v / 2 ^ m < 2 ^ (n - m) := by
        rw [Nat.div_lt_iff_lt_mul (by omega), ← Nat.pow_add, show n - m + m = n from by omega]; exact hv
      rw [e6, e7, ih (n - m) (v / 2 ^ m) _ (bit01_app h (bitsOf_01 _ _)) (by omega) (by omega) hdiv (by rw [List.length_append, bitsOf_len]; omega)]
      have hb : bitsOf n v = bitsOf m (v % 2 ^ m) ++ bitsOf (n - m) (v / 2 ^ m) := by
        rw [bitsOf_mod m v m (Nat.le_refl _), ← bitsOf_add, show m + (n - m) = n from by omega]
      rw [hb, List.append_assoc]
    by_cases h0 : B.length % 8 = 0
    · rw [h0, show (((0 : Nat) : Int) == 0) = true from rfl, cond_true, room_of (by rw [bytB_len]; simp only [List.length_cons, List.length_nil]; omega), chk_true, lt_eq]
      exact step _ (by rw [if_pos h0])
    · have : (((B.length % 8 : Nat) : Int) == 0) = false := by rw [beq_eq_false_iff_ne]; omega
      rw [this, cond_false]
      exact step _ (by rw [if_neg h0])
theorem wPut (K : Nat) (B : List Int) (h : bit01 B) (n v : Nat) (hn : n ≤ 32) (hv : v < 2 ^ n) (hl : B.length + n < 1099511627776) (hK : 32 < K) (lc dc : T_deflate_code) :
    bits_Writer_Put_deflate_writer.m K ⟨⟨⟨(B.length : Int)⟩, bytB B⟩, lc, dc⟩ (v : Int) (n : Int) = .ok (0, ((B ++ bitsOf n v).length : Int), bytB (B ++ bitsOf n v)) := by
  unfold bits_Writer_Put_deflate_writer.m
  have hp32 : 2 ^ n ≤ 2 ^ 32 := Nat.pow_le_pow_right (by decide) hn
  have d0 : (decide ((n : Int) < 0) || decide ((n : Int) > 32)) = false := by simp only [Bool.or_eq_false_iff, decide_eq_false_iff_not]; omega
  have d1 : ishr .u64 (wr .u64 (v : Int)) (n : Int) = 0 := by
    rw [wru64_id (by omega) (by omega), ishr_nat (by show n ≤ 64; omega), Nat.div_eq_of_lt hv]; rfl
  rw [d0, d1, show imp false false (decide ((0 : Int) ≤ (n : Int))) = true from by rw [dec_nn (by omega)]; rfl, chk_true, show (false || decide ((0 : Int) > 0)) = false from rfl, cond_false]
  exact putLoop K K n v B h (by omega) hn hv hl
end Go.Pu

/- What inflated data say: the rule, and the program's small readers. -/
namespace Go.Pu
open Go Go.Sl Go.Mo

/-- What a reader that panics answers. -/
def asPan {α β : Type} (f : β → α) : Except Int β → Res α
  | .ok b => .ok (f b)
  | .error e => if e = -1 then .fail else .pan (.iface ty_inflate_failed (.agg ⟨[.int .i64 e]⟩))
def two (x : Nat × Nat) : Int × Int := ((x.1 : Int), (x.2 : Int))

end Go.Pu

/- Stored blocks. -/
namespace Go.Pu
open Go Go.Sl Go.Mo

def byteN (s : List UInt8) (i : Nat) : Nat := (s.getD i 0).toNat
def sStored (t : List UInt8) (L p : Nat) (out : List Int) : Except Int (Nat × List Int) :=
  match sBytes t p 4 with
  | .error e => .error e
  | .ok (h, q) =>
    if byteN h 2 + 256 * byteN h 3 = 65535 - (byteN h 0 + 256 * byteN h 1) then
      match sBytes t q (byteN h 0 + 256 * byteN h 1) with
      | .error e => .error e
      | .ok (s, q') => if out.length + (byteN h 0 + 256 * byteN h 1) ≤ L then .ok (q', out ++ s.map ofb) else .error 11
    else .error 3
end Go.Pu
namespace Go.Pu
open Go Go.Sl Go.Mo
end Go.Pu

/- Stored blocks, as the document reads them. -/
namespace Go.Pu
open Go Go.Sl Go.Mo

/-- A reader of the document: what it answers, or the error, wherever it stands then. -/
def docIs (m : Res (Int × Int × List Int)) (s : Except Int (Nat × List Int)) : Prop :=
  match s with
  | .ok (q, out) => m = .ok (0, (q : Int), out)
  | .error e => if e = -1 then m = .fail else ∃ p out, m = .ok (e, p, out) ∧ e ≠ 0

end Go.Pu

/- The rule of a block's symbols; the program's reader of them. -/
namespace Go.Pu
open Go Go.Sl Go.Mo

/-! ## The rule -/
def lenT : List (Nat × Nat) := tab_inflate_lengths.map fun r => (r.from_.toNat, r.bits_.toNat)
def dstT : List (Nat × Nat) := tab_inflate_distances.map fun r => (r.from_.toNat, r.bits_.toNat)
def lenOf (x : Nat) : Nat × Nat := lenT.getD (x - 257) (0, 0)
def dstOf (x : Nat) : Nat × Nat := dstT.getD x (0, 0)
def copyN : Nat → Nat → List Int → List Int
  | 0, _, out => out
  | n + 1, b, out => copyN n b (out ++ [out.getD (out.length - b) 0])
/-- A match: its length's symbol was read. -/
def sMatch (t : List UInt8) (L : Nat) (dl : List Int) (x p : Nat) (out : List Int) : Except Int (Nat × List Int) :=
  if x ≤ 285 then
    match sBits t p (lenOf x).2 with
    | .error e => .error e
    | .ok (v, p1) =>
      match sNext dl t p1 with
      | .error e => .error e
      | .ok (d, p2) =>
        if d ≤ 29 then
          match sBits t p2 (dstOf d).2 with
          | .error e => .error e
          | .ok (u, p3) =>
            if (dstOf d).1 + u ≤ out.length then
              if out.length + ((lenOf x).1 + v) ≤ L then .ok (p3, copyN ((lenOf x).1 + v) ((dstOf d).1 + u) out) else .error 11
            else .error 3
        else .error 3
  else .error 3
/-- A block's symbols, up to its end; so many of them at most. -/
def sSyms (t : List UInt8) (L : Nat) (ll dl : List Int) : Nat → Nat → List Int → Except Int (Nat × List Int)
  | 0, _, _ => .error (-1)
  | k + 1, p, out =>
    match sNext ll t p with
    | .error e => .error e
    | .ok (x, q) =>
      if x = 256 then .ok (q, out)
      else if x < 256 then (if out.length < L then sSyms t L ll dl k q (out ++ [(x : Int)]) else .error 11)
      else match sMatch t L dl x q out with
        | .error e => .error e
        | .ok (q', out') => sSyms t L ll dl k q' out'

theorem rd_getD {l : List Int} {i : Nat} : rd l (i : Int) = l.getD i 0 := by
  simp only [rd, Int.toNat_natCast]; rfl
end Go.Pu

/- The program's reader of a block's symbols. -/
namespace Go.Pu
open Go Go.Sl Go.Mo

def psn {α : Type} (e : Int) : Res α := .pan (.iface ty_inflate_failed (.agg ⟨[.int .i64 e]⟩))
def pairI (x : Nat × List Int) : Int × List Int := ((x.1 : Int), x.2)
end Go.Pu

/- A block's symbols, as the document reads them. -/
namespace Go.Pu
open Go Go.Sl Go.Mo

def isP (r : Res (Int × Int)) (a b : Nat) : Bool := match r with
  | .ok (x, y) => x == (a : Int) && y == (b : Int)
  | _ => false
theorem isP_eq {r : Res (Int × Int)} {a b : Nat} (h : isP r a b = true) : r = .ok ((a : Int), (b : Int)) := by
  unfold isP at h
  split at h
  · simp only [Bool.and_eq_true, beq_iff_eq] at h; rw [h.1, h.2]
  · cases h
theorem refLength (K : Nat) : ∀ k, k < 29 → mortiseref07_Length.m K ((257 + k : Nat) : Int) = .ok (((lenOf (257 + k)).1 : Int), ((lenOf (257 + k)).2 : Int)) := by
  have h : ∀ k, k < 29 → isP (mortiseref07_Length.m 0 ((257 + k : Nat) : Int)) (lenOf (257 + k)).1 (lenOf (257 + k)).2 = true := by decide +kernel
  intro k hk
  exact isP_eq (h k hk)
theorem refDistance (K : Nat) : ∀ k : Nat, k < 30 → mortiseref07_Distance.m K (k : Int) = .ok (((dstOf k).1 : Int), ((dstOf k).2 : Int)) := by
  have h : ∀ k : Nat, k < 30 → isP (mortiseref07_Distance.m 0 (k : Int)) (dstOf k).1 (dstOf k).2 = true := by decide +kernel
  intro k hk
  exact isP_eq (h k hk)

end Go.Pu

/- Tokens: which may be; a length's symbol, a distance's symbol. -/
set_option maxRecDepth 100000
namespace Go.Pu
open Go Go.Sl Go.Mo
abbrev Tok := T_api_Token
/-- May a token be? -/
def tokB (t : Tok) : Bool := if t.Dist_ = 0 then decide (t.Len_ = 0) else decide (1 ≤ t.Dist_ ∧ t.Dist_ ≤ 32768 ∧ 3 ≤ t.Len_ ∧ t.Len_ ≤ 258 ∧ t.Lit_ = 0)
theorem progTok (K : Nat) (t : Tok) : match_fine.m K t = .ok (tokB t) := by
  unfold match_fine.m tokB
  rw [cond_beq]
  by_cases h : t.Dist_ = 0
  · rw [if_pos h, if_pos h, lt_eq]; rfl
  · rw [if_neg h, if_neg h, lt_eq]
    congr 1
    rw [Bool.eq_iff_iff]
    simp only [Bool.and_eq_true, decide_eq_true_eq, beq_iff_eq]
    omega
theorem refTok (K : Nat) (t : Tok) : mortiseref08_May.m K t = .ok (tokB t) := by
  unfold mortiseref08_May.m tokB
  rw [cond_beq]
  by_cases h : t.Dist_ = 0
  · rw [if_pos h, if_pos h, lt_eq]; rfl
  · rw [if_neg h, if_neg h, lt_eq]
    congr 1
    rw [Bool.eq_iff_iff]
    simp only [Bool.and_eq_true, decide_eq_true_eq, beq_iff_eq]
    omega

/-! ## Symbols -/
def lsym (n : Nat) : Nat := if n = 258 then 285 else (List.range 28).foldl (fun out k => if (lenOf (257 + k)).1 ≤ n then 257 + k else out) 257
def dsym (n : Nat) : Nat := (List.range 30).foldl (fun out k => if (dstOf k).1 ≤ n then k else out) 0
theorem foldT {f : Nat → Nat} {p : Nat → Prop} [DecidablePred p] (s0 d : Nat) : ∀ m, (∀ k, k < m → (p k ↔ k ≤ s0)) → (List.range m).foldl (fun out k => if p k then f k else out) d = if m = 0 then d else f (min s0 (m - 1))
  | 0, _ => rfl
  | m + 1, h => by
    rw [List.range_succ, List.foldl_append, foldT s0 d m (fun k hk => h k (by omega))]
    simp only [List.foldl_cons, List.foldl_nil]
    have := h m (by omega)
    rw [if_neg (by omega : ¬ m + 1 = 0)]
    by_cases hm : m ≤ s0
    · rw [if_pos (this.2 hm)]; congr 1; omega
    · rw [if_neg (fun hp => hm (this.1 hp))]
      by_cases h0 : m = 0
      · omega
      · rw [if_neg h0]; congr 1; omega

/-- A number, halved till it is told. -/
theorem scaledLoop (K : Nat) (n told : Nat) (hn : n < 1048576) (ht : told ≤ 2) : ∀ (j k top : Nat), top < j → k + top < 1048576 → k ≤ 20 → top * 2 ^ k ≤ n → n < (top + 1) * 2 ^ k → (k = 0 ∨ 2 ^ told ≤ top) →
    ∃ k' top', k' ≤ 20 ∧ top' * 2 ^ k' ≤ n ∧ n < (top' + 1) * 2 ^ k' ∧ (k' = 0 ∨ 2 ^ told ≤ top') ∧ top' < 2 ^ (told + 1) ∧
      deflate_scaled.l1 K (n : Int) (told : Int) j (k : Int) (top : Int) = .ok (((k' * 2 ^ told + top' : Nat) : Int), (k' : Int), ((n - top' * 2 ^ k' : Nat) : Int)) := by
  intro j
  induction j with
  | zero => intro k top h; omega
  | succ j ih =>
    intro k top h1 h2 h20 h3 h4 h5
    have hpt : 2 ^ told ≤ 2 ^ 2 := Nat.pow_le_pow_right (by decide) ht
    have hpt1 : 1 ≤ 2 ^ told := Nat.one_le_two_pow
    have e2 : ishl .i64 2 (told : Int) = ((2 ^ (told + 1) : Nat) : Int) := by
      have := ishl_i64 (a := 2) (n := told) (by omega) (by omega)
      rw [show ((2 : Nat) : Int) = 2 from rfl] at this
      rw [this, Nat.pow_succ, Nat.mul_comm]
    rw [deflate_scaled.l1, dec_nn (by omega), chk_true, e2, cond_dec]
    have hps : 2 ^ (told + 1) = 2 * 2 ^ told := by rw [Nat.pow_succ, Nat.mul_comm]
    by_cases hc : 2 ^ (told + 1) ≤ top
    · have hk20 : k < 20 := by
        refine Nat.lt_of_not_le fun hge => ?_
        have h6 : 2 ^ 20 ≤ 2 ^ k := Nat.pow_le_pow_right (by decide) hge
        have h7 : 1 * 2 ^ 20 ≤ top * 2 ^ k := Nat.mul_le_mul (by omega) h6
        omega
      have e3 : ishr .i64 (top : Int) 1 = ((top / 2 : Nat) : Int) := by
        have := ishr_nat (k := .i64) (a := top) (n := 1) (by decide)
        rw [show ((1 : Nat) : Int) = 1 from rfl] at this
        rw [this]
      rw [if_pos (by omega), e3, lt_eq, lt_eq, show w64 ((k : Int) + 1) = ((k + 1 : Nat) : Int) from by rw [w64_id (by omega) (by omega)]; rfl]
      refine ih (k + 1) (top / 2) (by omega) (by omega) (by omega) ?_ ?_ (by omega)
      · rw [Nat.pow_succ]
        have : top / 2 * (2 ^ k * 2) ≤ top * 2 ^ k := by rw [Nat.mul_comm (2 ^ k) 2, ← Nat.mul_assoc]; exact Nat.mul_le_mul_right _ (by omega)
        omega
      · rw [Nat.pow_succ]
        have : (top + 1) * 2 ^ k ≤ (top / 2 + 1) * (2 ^ k * 2) := by rw [Nat.mul_comm (2 ^ k) 2, ← Nat.mul_assoc]; exact Nat.mul_le_mul_right _ (by omega)
        omega
    · rw [if_neg (by omega)]
      refine ⟨k, top, h20, h3, h4, h5, by omega, ?_⟩
      unfold deflate_scaled.j2
      have hk : k * 2 ^ told ≤ 20 * 4 := Nat.mul_le_mul h20 (by omega)
      rw [dec_nn (by omega), chk_true, dec_nn (by omega), chk_true, ishl_i64 (by omega) (by omega), ishl_i64 (by omega) (by omega), w64_id (by omega) (by omega), w64_id (x := (n : Int) - _) (by omega) (by omega), wru32_id (by omega) (by omega)]
      congr 2
      congr 1
      omega
theorem progScaled (K : Nat) (n told : Nat) (hn : n < 1048576) (ht : told ≤ 2) (hK : n < K) : ∃ k top, k ≤ 20 ∧ top * 2 ^ k ≤ n ∧ n < (top + 1) * 2 ^ k ∧ (k = 0 ∨ 2 ^ told ≤ top) ∧ top < 2 ^ (told + 1) ∧
    deflate_scaled.m K (n : Int) (told : Int) = .ok (((k * 2 ^ told + top : Nat) : Int), (k : Int), ((n - top * 2 ^ k : Nat) : Int)) := by
  unfold deflate_scaled.m
  exact scaledLoop K n told hn ht K 0 n hK (by omega) (by omega) (by simp) (by simp) (.inl rfl)

theorem len_tab : ∀ k, k < 6 → ∀ top, top < 8 → (k = 0 ∨ 4 ≤ top) → lenOf (257 + (k * 4 + top)) = (3 + top * 2 ^ k, k) := by decide
theorem dst_tab : ∀ k, k < 14 → ∀ top, top < 4 → (k = 0 ∨ 2 ≤ top) → dstOf (k * 2 + top) = (1 + top * 2 ^ k, k) := by decide
theorem len_mono : ∀ j, j < 28 → ∀ i, i < j → (lenOf (257 + i)).1 < (lenOf (257 + j)).1 := by decide
theorem dst_mono : ∀ j, j < 30 → ∀ i, i < j → (dstOf i).1 < (dstOf j).1 := by decide
theorem lsym_of {n s : Nat} (hs : s < 28) (hn : n ≠ 258) (h1 : (lenOf (257 + s)).1 ≤ n) (h2 : s = 27 ∨ n < (lenOf (257 + (s + 1))).1) : lsym n = 257 + s := by
  unfold lsym
  rw [if_neg hn, foldT (f := fun k => 257 + k) (p := fun k => (lenOf (257 + k)).1 ≤ n) s 257 28 (fun k hk => ?_)]
  · simp only [if_neg (by decide : ¬ 28 = 0)]; omega
  · constructor
    · intro hle
      refine Nat.le_of_not_lt fun hlt => ?_
      rcases h2 with h2 | h2
      · omega
      · by_cases he : k = s + 1
        · subst he; omega
        · have := len_mono k hk (s + 1) (by omega); omega
    · intro hle
      by_cases he : k = s
      · subst he; exact h1
      · have := len_mono s hs k (by omega); omega
theorem dsym_of {n s : Nat} (hs : s < 30) (h1 : (dstOf s).1 ≤ n) (h2 : s = 29 ∨ n < (dstOf (s + 1)).1) : dsym n = s := by
  unfold dsym
  rw [foldT (f := fun k => k) (p := fun k => (dstOf k).1 ≤ n) s 0 30 (fun k hk => ?_)]
  · simp only [if_neg (by decide : ¬ 30 = 0)]; omega
  · constructor
    · intro hle
      refine Nat.le_of_not_lt fun hlt => ?_
      rcases h2 with h2 | h2
      · omega
      · by_cases he : k = s + 1
        · subst he; omega
        · have := dst_mono k hk (s + 1) (by omega); omega
    · intro hle
      by_cases he : k = s
      · subst he; exact h1
      · have := dst_mono s hs k (by omega); omega

structure LSym (n s e : Nat) : Prop where
  eq : lsym n = s
  lo : 257 ≤ s
  hi : s ≤ 285
  sum : (lenOf s).1 + e = n
  bits : e < 2 ^ (lenOf s).2
  small : (lenOf s).2 ≤ 5
structure DSym (n s e : Nat) : Prop where
  eq : dsym n = s
  hi : s ≤ 29
  sum : (dstOf s).1 + e = n
  bits : e < 2 ^ (dstOf s).2
  small : (dstOf s).2 ≤ 13
theorem progLength (K : Nat) (n : Nat) (h3 : 3 ≤ n) (h258 : n ≤ 258) (hK : 300 < K) : ∃ s e, LSym n s e ∧ deflate_length.m K (n : Int) = .ok ((s : Int), ((lenOf s).2 : Int), (e : Int)) := by
  unfold deflate_length.m
  rw [cond_beq]
  by_cases h : n = 258
  · subst h
    rw [if_pos (show ((258 : Nat) : Int) = 258 from rfl)]
    exact ⟨285, 0, ⟨rfl, by decide, by decide, by decide, by decide, by decide⟩, by rfl⟩
  · rw [if_neg (by omega), show w64 ((n : Int) - 3) = ((n - 3 : Nat) : Int) from by rw [w64_id (by omega) (by omega)]; omega]
    obtain ⟨k, top, q1, q2, q3, q4, q5, q6⟩ := progScaled K (n - 3) 2 (by omega) (by omega) (by omega)
    rw [show ((2 : Nat) : Int) = 2 from rfl] at q6
    have hk : k < 6 := by
      refine Nat.lt_of_not_le fun hge => ?_
      have h6 : 2 ^ 6 ≤ 2 ^ k := Nat.pow_le_pow_right (by decide) hge
      have h7 : 4 * 2 ^ 6 ≤ top * 2 ^ k := Nat.mul_le_mul (by omega) h6
      omega
    have ht := len_tab k hk top (by omega) (by omega)
    have hlt28 : k * 4 + top < 28 := by
      refine Nat.lt_of_not_le fun hge => ?_
      omega
    have hnext : k * 4 + top = 27 ∨ n < (lenOf (257 + (k * 4 + top + 1))).1 := by
      by_cases h27 : k * 4 + top = 27
      · exact .inl h27
      · right
        by_cases h7 : top = 7
        · have := len_tab (k + 1) (by omega) 4 (by decide) (.inr (by decide))
          rw [show (k + 1) * 4 + 4 = k * 4 + top + 1 from by omega] at this
          rw [this, Nat.pow_succ]
          simp only
          subst h7; omega
        · have := len_tab k hk (top + 1) (by omega) (by omega)
          rw [show k * 4 + (top + 1) = k * 4 + top + 1 from by omega] at this
          rw [this]
          simp only
          omega
    refine ⟨257 + (k * 4 + top), n - 3 - top * 2 ^ k, ⟨lsym_of hlt28 h (by rw [ht]; simp only; omega) hnext, by omega, by omega, by rw [ht]; simp only; omega, ?_, by rw [ht]; simp only; omega⟩, ?_⟩
    · rw [ht]; simp only; rw [Nat.add_mul, Nat.one_mul] at q3; omega
    · rw [q6, Res.bind_ok]
      dsimp only
      rw [ht, w64_id (by omega) (by omega)]
      congr 2
      omega
theorem progDistance (K : Nat) (n : Nat) (h1 : 1 ≤ n) (h2 : n ≤ 32768) (hK : 32768 < K) : ∃ s e, DSym n s e ∧ deflate_distance.m K (n : Int) = .ok ((s : Int), ((dstOf s).2 : Int), (e : Int)) := by
  unfold deflate_distance.m
  rw [show w64 ((n : Int) - 1) = ((n - 1 : Nat) : Int) from by rw [w64_id (by omega) (by omega)]; omega]
  obtain ⟨k, top, q1, q2, q3, q4, q5, q6⟩ := progScaled K (n - 1) 1 (by omega) (by omega) (by omega)
  rw [show ((1 : Nat) : Int) = 1 from rfl] at q6
  have hk : k < 14 := by
    refine Nat.lt_of_not_le fun hge => ?_
    have h6 : 2 ^ 14 ≤ 2 ^ k := Nat.pow_le_pow_right (by decide) hge
    have h7 : 2 * 2 ^ 14 ≤ top * 2 ^ k := Nat.mul_le_mul (by omega) h6
    omega
  have ht := dst_tab k hk top (by omega) (by omega)
  have hnext : k * 2 + top = 29 ∨ n < (dstOf (k * 2 + top + 1)).1 := by
    by_cases h27 : k * 2 + top = 29
    · exact .inl h27
    · right
      by_cases h7 : top = 3
      · have := dst_tab (k + 1) (by omega) 2 (by decide) (.inr (by decide))
        rw [show (k + 1) * 2 + 2 = k * 2 + top + 1 from by omega] at this
        rw [this, Nat.pow_succ]
        simp only
        subst h7; omega
      · have := dst_tab k hk (top + 1) (by omega) (by omega)
        rw [show k * 2 + (top + 1) = k * 2 + top + 1 from by omega] at this
        rw [this]
        simp only
        omega
  refine ⟨k * 2 + top, n - 1 - top * 2 ^ k, ⟨dsym_of (by omega) (by rw [ht]; simp only; omega) hnext, by omega, by rw [ht]; simp only; omega, ?_, by rw [ht]; simp only; omega⟩, ?_⟩
  · rw [ht]; simp only; rw [Nat.add_mul, Nat.one_mul] at q3; omega
  · rw [q6, Res.bind_ok]
    dsimp only
    rw [ht]
theorem refLsym_l1 (K : Nat) (n : Nat) : ∀ (j k s out : Nat), s + j = 28 → j < k → mortiseref08_LengthSymbol.l1 K (n : Int) k (out : Int) ((257 + s : Nat) : Int) = .ok ((((List.range' s j).foldl (fun out k => if (lenOf (257 + k)).1 ≤ n then 257 + k else out) out : Nat)) : Int) := by
  intro j
  induction j with
  | zero =>
    intro k s out h1 h2
    obtain ⟨k, rfl⟩ : ∃ m, k = m + 1 := ⟨k - 1, by omega⟩
    rw [mortiseref08_LengthSymbol.l1, cond_dec, if_neg (by omega)]
    rfl
  | succ j ih =>
    intro k s out h1 h2
    obtain ⟨k, rfl⟩ : ∃ m, k = m + 1 := ⟨k - 1, by omega⟩
    have hw : w64 (((257 + s : Nat) : Int) + 1) = ((257 + (s + 1) : Nat) : Int) := by rw [w64_id (by omega) (by omega)]; omega
    rw [mortiseref08_LengthSymbol.l1, cond_dec, if_pos (by omega), refLength K s (by omega), Res.bind_ok]
    dsimp only
    rw [cond_dec, hw, lt_eq, lt_eq, List.range'_succ, List.foldl_cons]
    by_cases hc : (lenOf (257 + s)).1 ≤ n
    · rw [if_pos (by omega), if_pos hc]; exact ih k (s + 1) (257 + s) (by omega) (by omega)
    · rw [if_neg (by omega), if_neg hc]; exact ih k (s + 1) out (by omega) (by omega)
theorem refLsym (K : Nat) (n : Nat) (hK : 40 < K) : mortiseref08_LengthSymbol.m K (n : Int) = .ok ((lsym n : Nat) : Int) := by
  unfold mortiseref08_LengthSymbol.m lsym
  rw [cond_beq]
  by_cases h : n = 258
  · subst h; rw [if_pos (show ((258 : Nat) : Int) = 258 from rfl), if_pos rfl]; rfl
  · rw [if_neg (by omega), if_neg h]
    have := refLsym_l1 K n 28 K 0 257 rfl (by omega)
    rw [List.range_eq_range']
    exact this
theorem refDsym_l1 (K : Nat) (n : Nat) : ∀ (j k s out : Nat), s + j = 30 → j < k → mortiseref08_DistSymbol.l1 K (n : Int) k (out : Int) (s : Int) = .ok ((((List.range' s j).foldl (fun out k => if (dstOf k).1 ≤ n then k else out) out : Nat)) : Int) := by
  intro j
  induction j with
  | zero =>
    intro k s out h1 h2
    obtain ⟨k, rfl⟩ : ∃ m, k = m + 1 := ⟨k - 1, by omega⟩
    rw [mortiseref08_DistSymbol.l1, cond_dec, if_neg (by omega)]
    rfl
  | succ j ih =>
    intro k s out h1 h2
    obtain ⟨k, rfl⟩ : ∃ m, k = m + 1 := ⟨k - 1, by omega⟩
    have hw : w64 ((s : Int) + 1) = ((s + 1 : Nat) : Int) := by rw [w64_id (by omega) (by omega)]; omega
    rw [mortiseref08_DistSymbol.l1, cond_dec, if_pos (by omega), refDistance K s (by omega), Res.bind_ok]
    dsimp only
    rw [cond_dec, hw, lt_eq, lt_eq, List.range'_succ, List.foldl_cons]
    by_cases hc : (dstOf s).1 ≤ n
    · rw [if_pos (by omega), if_pos hc]; exact ih k (s + 1) s (by omega) (by omega)
    · rw [if_neg (by omega), if_neg hc]; exact ih k (s + 1) out (by omega) (by omega)
theorem refDsym (K : Nat) (n : Nat) (hK : 40 < K) : mortiseref08_DistSymbol.m K (n : Int) = .ok ((dsym n : Nat) : Int) := by
  unfold mortiseref08_DistSymbol.m dsym
  have := refDsym_l1 K n 30 K 0 0 rfl (by omega)
  rw [List.range_eq_range']
  exact this
end Go.Pu

/- The stable sort of packets: ranges are swapped, turned round, and single ones are moved. -/
set_option maxRecDepth 100000
namespace Go.Pu
open Go Go.Sl Go.Mo
abbrev PK := T_huff_packet

theorem rd_at {α : Type} [Inhabited α] (A : List α) (x : α) (B : List α) {i : Int} (h : i = (A.length : Int)) : rd (A ++ x :: B) i = x := by
  subst h; simp [rd, List.getD]
theorem set_at {α : Type} (A : List α) (x y : α) (B : List α) {i : Int} (h : i = (A.length : Int)) : (A ++ x :: B).set (Int.toNat i) y = A ++ y :: B := by
  subst h; simp
theorem inb_at {α : Type} (A : List α) (x : α) (B : List α) {i : Int} (h : i = (A.length : Int)) : inb i (A ++ x :: B).length = true := by
  subst h; simp [inb]; omega
theorem pk_eta (x : PK) : T_huff_packet.mk x.often_ x.symbols_ = x := rfl

/-! ## Order -/
def Srt (l : List PK) : Prop := l.Pairwise fun x y => x.often_ ≤ y.often_
/-- The same elements, in order; those that come as often as each other as they stood. -/
def SS (l l' : List PK) : Prop := Srt l' ∧ l'.Perm l ∧ ∀ k : Int, l'.filter (fun x => x.often_ == k) = l.filter (fun x => x.often_ == k)
theorem Srt.append {A B : List PK} (ha : Srt A) (hb : Srt B) (h : ∀ x ∈ A, ∀ y ∈ B, x.often_ ≤ y.often_) : Srt (A ++ B) := List.pairwise_append.2 ⟨ha, hb, h⟩
theorem Srt.left {A B : List PK} (h : Srt (A ++ B)) : Srt A := (List.pairwise_append.1 h).1
theorem Srt.right {A B : List PK} (h : Srt (A ++ B)) : Srt B := (List.pairwise_append.1 h).2.1
theorem Srt.cross {A B : List PK} (h : Srt (A ++ B)) : ∀ x ∈ A, ∀ y ∈ B, x.often_ ≤ y.often_ := (List.pairwise_append.1 h).2.2
theorem SS.refl {l : List PK} (h : Srt l) : SS l l := ⟨h, List.Perm.refl _, fun _ => rfl⟩
/-- Ranges of which all of one come less often than all of the other. -/
theorem filter_swap {X Y : List PK} (h : ∀ x ∈ X, ∀ y ∈ Y, y.often_ < x.often_) (k : Int) : (X ++ Y).filter (fun x => x.often_ == k) = (Y ++ X).filter (fun x => x.often_ == k) := by
  simp only [List.filter_append]
  by_cases hx : X.filter (fun x => x.often_ == k) = []
  · rw [hx]; simp
  · have : Y.filter (fun x => x.often_ == k) = [] := by
      obtain ⟨x, hx⟩ := List.exists_mem_of_ne_nil _ hx
      rw [List.mem_filter] at hx
      rw [List.filter_eq_nil_iff]
      intro y hy
      have := h x hx.1 y hy
      have h2 : x.often_ = k := by simpa using hx.2
      simp only [beq_iff_eq]; omega
    rw [this]; simp
end Go.Pu

/- The stable sort of packets: insertion. -/
set_option maxRecDepth 100000
namespace Go.Pu
open Go Go.Sl Go.Mo

theorem snocCases {α : Type} (A : List α) : A = [] ∨ ∃ A' z, A = A' ++ [z] := by
  rcases List.eq_nil_or_concat A with h | ⟨A', z, h⟩
  · exact .inl h
  · exact .inr ⟨A', z, by rw [h]; simp⟩

def cmpI (x y : Int) : Int := if x < y then -1 else if x > y then 1 else 0
theorem cmpCompare (K : Nat) (x y : Int) : cmp_Compare_int_.m K x y = .ok (cmpI x y) := by
  unfold cmp_Compare_int_.m cmp_isNaN_int_.m cmpI
  have h : ∀ z : Int, (z != z) = false := fun z => by simp
  simp only [h, lt_eq, Res.bind_ok, cond_false, cond_dec]
  split <;> (try rfl)
  split <;> rfl
theorem cmpL (K : Nat) (x y : PK) : huff_Lengths_2.m K x y = .ok (cmpI x.often_ y.often_) := by
  unfold huff_Lengths_2.m; rw [cmpCompare]; rfl
theorem cmpI_neg (x y : Int) : decide (cmpI x y < (0 : Int)) = decide (x < y) := by
  unfold cmpI
  by_cases h : x < y
  · rw [if_pos h]; simp [h]
  · rw [if_neg h]; split <;> simp [h]

theorem Srt.last {A : List PK} {x : PK} (h : Srt A) (hx : ∀ y, A.getLast? = some y → y.often_ ≤ x.often_) : ∀ y ∈ A, y.often_ ≤ x.often_ := by
  intro y hy
  rcases snocCases A with rfl | ⟨A', z, rfl⟩
  · cases hy
  · have hz := hx z (by simp)
    rcases List.mem_append.1 hy with h1 | h1
    · have := h.cross y h1 z (by simp); omega
    · simp at h1; subst h1; exact hz

/-- A packet goes ahead of those that come more often. -/
theorem SS.ins {A1 A2 : List PK} {x : PK} (h : Srt (A1 ++ A2)) (h1 : ∀ y ∈ A1, y.often_ ≤ x.often_) (h2 : ∀ y ∈ A2, x.often_ < y.often_) : SS (A1 ++ A2 ++ [x]) (A1 ++ x :: A2) := by
  refine ⟨?_, ?_, fun k => ?_⟩
  · refine Srt.append h.left ?_ ?_
    · exact List.pairwise_cons.2 ⟨fun y hy => by have := h2 y hy; omega, h.right⟩
    · intro a ha y hy
      rcases List.mem_cons.1 hy with rfl | hy
      · exact h1 a ha
      · exact h.cross a ha y hy
  · rw [List.append_assoc]
    exact List.Perm.append_left _ (List.perm_append_comm (l₁ := [x]) (l₂ := A2))
  · have := filter_swap (X := A2) (Y := [x]) (fun a ha y hy => by simp at hy; subst hy; exact h2 a ha) k
    rw [List.append_assoc, List.filter_append, List.filter_append (l₁ := A1), this]
    rfl

theorem insStep (K : Nat) (g : List PK → Int → Res (List PK)) (i : Nat) (P Q : List PK) (x : PK) (hi : i < 1099511627776) : ∀ (k : Nat) (A B : List PK), A.length < k → (P ++ A ++ x :: (B ++ Q)).length < 1099511627776 →
    ∃ A1 A2, A = A1 ++ A2 ∧ (∀ y ∈ A2, x.often_ < y.often_) ∧ (∀ y, A1.getLast? = some y → y.often_ ≤ x.often_) ∧
      slices_insertionSortCmpFunc_huff_packet__b6e1_5de2.l2 K g (P.length : Int) (i : Int) k (P ++ A ++ x :: (B ++ Q)) ((P.length + A.length : Nat) : Int) = g (P ++ A1 ++ x :: (A2 ++ B ++ Q)) ((i + 1 : Nat) : Int) := by
  intro k
  induction k with
  | zero => intro A B h; omega
  | succ k ih =>
    intro A B h hl
    have hl' := hl
    simp only [List.length_append, List.length_cons] at hl'
    rcases snocCases A with rfl | ⟨A', y, rfl⟩
    · refine ⟨[], [], rfl, (fun y hy => by cases hy), (fun y hy => by cases hy), ?_⟩
      rw [slices_insertionSortCmpFunc_huff_packet__b6e1_5de2.l2, cond_dec, if_neg (by simp)]
      unfold slices_insertionSortCmpFunc_huff_packet__b6e1_5de2.j3
      rw [cond_false, lt_eq, show w64 ((i : Int) + 1) = ((i + 1 : Nat) : Int) from by rw [w64_id (by omega) (by omega)]; rfl]
      simp
    · simp only [List.length_append, List.length_cons, List.length_nil] at h hl' ⊢
      have ej : (((P.length + (A'.length + (0 + 1)) : Nat)) : Int) = ((P ++ (A' ++ [y])).length : Int) := by simp
      have ej1 : w64 (((P.length + (A'.length + (0 + 1)) : Nat) : Int) - 1) = ((P ++ A').length : Int) := by rw [w64_id (by omega) (by omega)]; simp only [List.length_append]; omega
      have d1 : P ++ (A' ++ [y]) ++ x :: (B ++ Q) = (P ++ A') ++ y :: (x :: (B ++ Q)) := by simp
      have r1 : rd (P ++ (A' ++ [y]) ++ x :: (B ++ Q)) (((P.length + (A'.length + (0 + 1)) : Nat)) : Int) = x := rd_at _ _ _ ej
      have r2 : rd (P ++ (A' ++ [y]) ++ x :: (B ++ Q)) ((P ++ A').length : Int) = y := by rw [d1]; exact rd_at _ _ _ rfl
      have b1 : inb (((P.length + (A'.length + (0 + 1)) : Nat)) : Int) (P ++ (A' ++ [y]) ++ x :: (B ++ Q)).length = true := inb_at _ _ _ ej
      have b2 : inb ((P ++ A').length : Int) (P ++ (A' ++ [y]) ++ x :: (B ++ Q)).length = true := by rw [d1]; exact inb_at _ _ _ rfl
      rw [slices_insertionSortCmpFunc_huff_packet__b6e1_5de2.l2, cond_dec, if_pos (by omega), b1, chk_true, ej1, b2, chk_true, r1, r2, pk_eta, pk_eta, cmpL, Res.bind_ok, cmpI_neg]
      unfold slices_insertionSortCmpFunc_huff_packet__b6e1_5de2.j3
      rw [cond_dec]
      by_cases hxy : x.often_ < y.often_
      · rw [if_pos hxy, ej1, b2, chk_true, b1, chk_true, r1, r2, pk_eta, pk_eta, lt_eq]
        have s1 : (P ++ (A' ++ [y]) ++ x :: (B ++ Q)).set (Int.toNat (((P.length + (A'.length + (0 + 1)) : Nat)) : Int)) y = (P ++ A') ++ y :: (y :: (B ++ Q)) := by rw [set_at _ _ _ _ ej]; simp
        rw [s1, inb_at _ _ _ rfl, chk_true, set_at _ _ _ _ rfl, lt_eq, lt_eq]
        obtain ⟨A1, A2, h1, h2, h3, h4⟩ := ih A' (y :: B) (by omega) (by simp only [List.length_append, List.length_cons]; omega)
        refine ⟨A1, A2 ++ [y], by rw [h1]; simp, fun z hz => ?_, h3, ?_⟩
        · rcases List.mem_append.1 hz with hz | hz
          · exact h2 z hz
          · simp at hz; subst hz; exact hxy
        · have : ((P ++ A').length : Int) = ((P.length + A'.length : Nat) : Int) := by simp
          rw [this]
          refine h4.trans ?_
          simp
      · refine ⟨A' ++ [y], [], by simp, fun z hz => (by cases hz), fun z hz => ?_, ?_⟩
        · simp at hz; subst hz; omega
        · rw [if_neg hxy, lt_eq, show w64 ((i : Int) + 1) = ((i + 1 : Nat) : Int) from by rw [w64_id (by omega) (by omega)]; rfl]
          simp

theorem SS.snoc {S0 S S' : List PK} {x : PK} (h : SS S0 S) (h' : SS (S ++ [x]) S') : SS (S0 ++ [x]) S' :=
  ⟨h'.1, h'.2.1.trans (h.2.1.append_right _), fun k => by rw [h'.2.2 k, List.filter_append, h.2.2 k, ← List.filter_append]⟩

theorem insLoop (K : Nat) (P Q : List PK) (hK : (1099511627776 : Nat) > K) : ∀ (T S0 S : List PK) (k : Nat), SS S0 S → 0 < S.length → T.length < k → (P ++ S ++ T ++ Q).length < K →
    ∃ S', SS (S0 ++ T) S' ∧ slices_insertionSortCmpFunc_huff_packet__b6e1_5de2.l1 K (P.length : Int) ((P.length + S.length + T.length : Nat) : Int) k (P ++ S ++ T ++ Q) ((P.length + S.length : Nat) : Int) = .ok (P ++ S' ++ Q)
  | [], S0, S, k, hs, h0, hk, hl => by
    obtain ⟨k, rfl⟩ : ∃ m, k = m + 1 := ⟨k - 1, by simp at hk; omega⟩
    refine ⟨S, by simpa using hs, ?_⟩
    rw [slices_insertionSortCmpFunc_huff_packet__b6e1_5de2.l1, cond_dec, if_neg (by simp)]
    simp
  | x :: T, S0, S, k, hs, h0, hk, hl => by
    obtain ⟨k, rfl⟩ : ∃ m, k = m + 1 := ⟨k - 1, by simp at hk; omega⟩
    simp only [List.length_cons, List.length_append] at hk hl
    rw [slices_insertionSortCmpFunc_huff_packet__b6e1_5de2.l1, cond_dec, if_pos (by simp only [List.length_cons]; omega)]
    obtain ⟨A1, A2, h1, h2, h3, h4⟩ := insStep K (slices_insertionSortCmpFunc_huff_packet__b6e1_5de2.l1 K (P.length : Int) ((P.length + S.length + (x :: T).length : Nat) : Int) k) (P.length + S.length) P (T ++ Q) x (by omega) K S []
      (by omega) (by simp only [List.length_append, List.length_cons, List.length_nil]; omega)
    simp only [List.nil_append, List.append_nil] at h4
    rw [show P ++ S ++ x :: T ++ Q = P ++ S ++ x :: (T ++ Q) from by simp, h4]
    subst h1
    have hss := SS.ins hs.1 (hs.1.left.last h3) h2
    simp only [List.length_append] at hl
    obtain ⟨S', g1, g2⟩ := insLoop K P Q hK T (S0 ++ [x]) (A1 ++ x :: A2) k (hs.snoc hss) (by simp only [List.length_append, List.length_cons]; omega) (by omega) (by simp only [List.length_append, List.length_cons]; omega)
    refine ⟨S', by simpa using g1, ?_⟩
    rw [← g2]
    simp only [List.length_append, List.length_cons, List.append_assoc, List.cons_append]
    congr 2 <;> (simp only [Nat.add_assoc]; congr 1 <;> omega)
/-- A range, sorted by insertion. -/
theorem insertion (K : Nat) (P S Q : List PK) (hK : (1099511627776 : Nat) > K) (hl : (P ++ S ++ Q).length + 1 < K) {a b : Int} (ha : a = (P.length : Int)) (hb : b = ((P.length + S.length : Nat) : Int)) :
    ∃ S', SS S S' ∧ slices_insertionSortCmpFunc_huff_packet__b6e1_5de2.m K (P ++ S ++ Q) a b = .ok (P ++ S' ++ Q) := by
  subst ha; subst hb
  unfold slices_insertionSortCmpFunc_huff_packet__b6e1_5de2.m
  have hl' := hl
  simp only [List.length_append] at hl'
  rw [lt_eq, show w64 ((P.length : Int) + 1) = ((P.length + 1 : Nat) : Int) from by rw [w64_id (by omega) (by omega)]; rfl]
  cases S with
  | nil =>
    refine ⟨[], ⟨List.Pairwise.nil, List.Perm.refl _, fun _ => rfl⟩, ?_⟩
    obtain ⟨k, rfl⟩ : ∃ m, K = m + 1 := ⟨K - 1, by omega⟩
    rw [slices_insertionSortCmpFunc_huff_packet__b6e1_5de2.l1, cond_dec, if_neg (by simp only [List.length_nil]; omega)]
  | cons x S =>
    simp only [List.length_cons] at hl'
    obtain ⟨S', h1, h2⟩ := insLoop K P Q hK S [x] [x] K (SS.refl (List.pairwise_singleton _ _)) (by simp) (by omega) (by simp only [List.length_append, List.length_cons, List.length_nil]; omega)
    refine ⟨S', by simpa using h1, ?_⟩
    rw [← h2]
    simp only [List.length_cons, List.length_nil, List.append_assoc, List.cons_append, List.nil_append]
    congr 2
    omega
end Go.Pu

/- The stable sort of packets: two sorted ranges are merged in place. -/
set_option maxRecDepth 100000
namespace Go.Pu
open Go Go.Sl Go.Mo

theorem Srt.rd {X : List PK} (h : Srt X) {i j : Nat} (hij : i ≤ j) (hj : j < X.length) : (Sl.rd X (i : Int)).often_ ≤ (Sl.rd X (j : Int)).often_ := by
  by_cases he : i = j
  · subst he; exact Int.le_refl _
  · have := List.pairwise_iff_getElem.1 h i j (by omega) hj (by omega)
    have h1 : i < X.length := by omega
    simp only [Sl.rd, Int.toNat_natCast, List.getD, List.getElem?_eq_getElem h1, List.getElem?_eq_getElem hj]
    exact this
end Go.Pu

/- The stable sort of packets: the whole. -/
set_option maxRecDepth 100000
namespace Go.Pu
open Go Go.Sl Go.Mo

section
variable (K : Nat) (rc : List PK → Int → Int → Int → Res (List PK)) (P A B Q : List PK)
end

end Go.Pu

/- The stable sort of packets. -/
set_option maxRecDepth 100000
namespace Go.Pu
open Go Go.Sl Go.Mo

/-- The same elements; those that come as often as each other as they stood. -/
def SF (l l' : List PK) : Prop := l'.Perm l ∧ ∀ k : Int, l'.filter (fun x => x.often_ == k) = l.filter (fun x => x.often_ == k)
theorem SF.refl (l : List PK) : SF l l := ⟨List.Perm.refl _, fun _ => rfl⟩
theorem SF.trans {a b c : List PK} (h : SF a b) (h' : SF b c) : SF a c := ⟨h'.1.trans h.1, fun k => (h'.2 k).trans (h.2 k)⟩
theorem SF.append {a b c d : List PK} (h : SF a b) (h' : SF c d) : SF (a ++ c) (b ++ d) := ⟨h.1.append h'.1, fun k => by rw [List.filter_append, List.filter_append, h.2 k, h'.2 k]⟩
theorem SS.of {a b : List PK} (h : SF a b) (h' : Srt b) : SS a b := ⟨h', h.1, h.2⟩
theorem SF.len {a b : List PK} (h : SF a b) : b.length = a.length := h.1.length_eq

/-- Ranges of so many, each in order. -/
inductive Bk (bs : Nat) : List PK → Prop
  | last {X : List PK} (h : Srt X) (hl : X.length ≤ bs) : Bk bs X
  | cons {X T : List PK} (h : Srt X) (hl : X.length = bs) (ht : Bk bs T) : Bk bs (X ++ T)

theorem Bk.two {bs : Nat} {T : List PK} (h : Bk bs T) (hl : 2 * bs ≤ T.length) (hb : 0 < bs) : ∃ X Y T2, T = X ++ Y ++ T2 ∧ X.length = bs ∧ Y.length = bs ∧ Srt X ∧ Srt Y ∧ Bk bs T2 := by
  cases h with
  | last h hl2 => omega
  | @cons X T h hl2 ht =>
    simp only [List.length_append] at hl
    cases ht with
    | last h' hl' => exact ⟨X, T, [], by simp, hl2, by omega, h, h', .last List.Pairwise.nil (by simp)⟩
    | @cons Y T2 h' hl' ht' => exact ⟨X, Y, T2, by simp, hl2, hl', h, h', ht'⟩
theorem Bk.srt {bs : Nat} {T : List PK} (h : Bk bs T) (hl : T.length ≤ bs) : Srt T := by
  cases h with
  | last h _ => exact h
  | @cons X T h hl2 ht =>
    simp only [List.length_append] at hl
    have : T = [] := List.length_eq_zero_iff.1 (by omega)
    subst this
    simpa using h

end Go.Pu

/- Packets are joined, paired, merged. -/
set_option maxRecDepth 100000
namespace Go.Pu
open Go Go.Sl Go.Mo

/-- Packets of two each. -/
def prs : List PK → List PK
  | x :: y :: r => ⟨x.often_ + y.often_, x.symbols_ ++ y.symbols_⟩ :: prs r
  | _ => []
theorem prs_len : ∀ l : List PK, (prs l).length = l.length / 2
  | [] => rfl
  | [_] => by simp [prs]
  | x :: y :: r => by simp only [prs, List.length_cons, prs_len r]; omega

/-! ## Rows -/
theorem prs_srt : ∀ {l : List PK}, Srt l → Srt (prs l)
  | [], _ => List.Pairwise.nil
  | [_], _ => by simp [prs, Srt]
  | x :: y :: r, h => by
    have h1 := List.pairwise_cons.1 h
    have h2 := List.pairwise_cons.1 h1.2
    refine List.pairwise_cons.2 ⟨fun p hp => ?_, prs_srt (l := r) h2.2⟩
    have : ∀ {r : List PK}, ∀ p ∈ prs r, ∃ u ∈ r, ∃ v ∈ r, p.often_ = u.often_ + v.often_ := by
      intro r
      induction r using prs.induct with
      | case1 u v r ih =>
        intro p hp
        simp only [prs, List.mem_cons] at hp
        rcases hp with rfl | hp
        · exact ⟨u, by simp, v, by simp, rfl⟩
        · obtain ⟨a, ha, b, hb, h⟩ := ih p hp
          exact ⟨a, by simp [ha], b, by simp [hb], h⟩
      | case2 r hr =>
        intro p hp
        unfold prs at hp
        split at hp
        · rename_i a b c; exact (hr a b c rfl).elim
        · cases hp
    obtain ⟨u, hu, v, hv, he⟩ := this p hp
    have g1 := h1.1 u (by simp [hu])
    have g2 := h2.1 v hv
    show x.often_ + y.often_ ≤ p.often_
    omega
/-- Rows in order are told by what comes as often. -/
theorem srt_uniq : ∀ {a b : List PK}, Srt a → Srt b → (∀ k : Int, a.filter (fun x => x.often_ == k) = b.filter (fun x => x.often_ == k)) → a = b
  | [], [], _, _, _ => rfl
  | [], y :: b, _, _, h => by have := h y.often_; simp at this
  | x :: a, [], _, _, h => by have := h x.often_; simp at this
  | x :: a, y :: b, ha, hb, h => by
    have hx := List.pairwise_cons.1 ha
    have hy := List.pairwise_cons.1 hb
    have hle : ∀ {x y : PK} {a b : List PK}, (∀ z ∈ a, x.often_ ≤ z.often_) → (x :: a).filter (fun z => z.often_ == y.often_) = (y :: b).filter (fun z => z.often_ == y.often_) → x.often_ ≤ y.often_ := by
      intro x y a b hx h
      have hm : y ∈ (x :: a).filter (fun z => z.often_ == y.often_) := by rw [h]; simp
      rw [List.mem_filter] at hm
      rcases List.mem_cons.1 hm.1 with h1 | h1
      · rw [h1]; exact Int.le_refl _
      · exact hx y h1
    have e : x.often_ = y.often_ := Int.le_antisymm (hle hx.1 (h y.often_)) (hle hy.1 (h x.often_).symm)
    have h0 := h x.often_
    simp only [List.filter_cons, beq_self_eq_true, if_true, ← e] at h0
    simp only [List.cons.injEq] at h0
    rw [h0.1, srt_uniq hx.2 hy.2 fun k => ?_]
    have hk := h k
    simp only [List.filter_cons, e] at hk
    by_cases hkk : (y.often_ == k) = true
    · simp only [hkk, if_true, List.cons.injEq] at hk; exact hk.2
    · simp only [hkk] at hk; simpa using hk
theorem filter_comm {α : Type} (p q : α → Bool) (l : List α) : (l.filter p).filter q = (l.filter q).filter p := by
  simp only [List.filter_filter]
  congr 1; funext x; rw [Bool.and_comm]
/-- Of what is merged, a kind of packets stands as it stood. -/
theorem SS.kind {a b R : List PK} (h : SS (a ++ b) R) (p : PK → Bool) (ha : Srt a) (h1 : ∀ x ∈ a, p x = true) (h2 : ∀ x ∈ b, p x = false) : R.filter p = a := by
  refine srt_uniq (h.1.sublist (List.filter_sublist)) ha fun k => ?_
  have e : b.filter p = [] := List.filter_eq_nil_iff.2 (fun x hx => by simp [h2 x hx])
  rw [filter_comm, h.2.2 k, filter_comm, List.filter_append, List.filter_eq_self.2 h1, e, List.append_nil]
theorem SS.kind2 {a b R : List PK} (h : SS (a ++ b) R) (p : PK → Bool) (hb : Srt b) (h1 : ∀ x ∈ a, p x = false) (h2 : ∀ x ∈ b, p x = true) : R.filter p = b := by
  refine srt_uniq (h.1.sublist (List.filter_sublist)) hb fun k => ?_
  have e : a.filter p = [] := List.filter_eq_nil_iff.2 (fun x hx => by simp [h1 x hx])
  rw [filter_comm, h.2.2 k, filter_comm, List.filter_append, List.filter_eq_self.2 h2, e, List.nil_append]
end Go.Pu

/- What the rows of packets tell: how long each symbol's code is; the sum of a code's parts. -/
set_option maxRecDepth 100000
namespace Go.Pu
open Go Go.Sl Go.Mo

def isOne (p : PK) : Bool := p.symbols_.length == 1
def symsP (l : List PK) : List Int := l.flatMap (·.symbols_)
structure Rows (X : List PK) (R : Nat → List PK) : Prop where
  zero : R 0 = X
  succ : ∀ t, SS (X ++ prs (R t)) (R (t + 1))
  one : ∀ p ∈ X, p.symbols_.length = 1
  pos : ∀ p ∈ X, 0 < p.often_
  srt : Srt X

theorem prs_mem : ∀ {r : List PK} {p : PK}, p ∈ prs r → ∃ u ∈ r, ∃ v ∈ r, p.often_ = u.often_ + v.often_ ∧ p.symbols_ = u.symbols_ ++ v.symbols_ := by
  intro r
  induction r using prs.induct with
  | case1 u v r ih =>
    intro p hp
    simp only [prs, List.mem_cons] at hp
    rcases hp with rfl | hp
    · exact ⟨u, by simp, v, by simp, rfl, rfl⟩
    · obtain ⟨a, ha, b, hb, h⟩ := ih hp
      exact ⟨a, by simp [ha], b, by simp [hb], h⟩
  | case2 r hr =>
    intro p hp
    unfold prs at hp
    split at hp
    · rename_i a b c; exact (hr a b c rfl).elim
    · cases hp
theorem prs_app : ∀ {T : List PK} (U : List PK), T.length % 2 = 0 → prs (T ++ U) = prs T ++ prs U
  | [], U, _ => by simp [prs]
  | [x], U, h => by simp at h
  | x :: y :: T, U, h => by
    simp only [List.cons_append, prs]
    rw [prs_app U (by simp only [List.length_cons] at h; omega)]
theorem prs_take (l : List PK) (b : Nat) : (prs l).take b = prs (l.take (2 * b)) := by
  induction l using prs.induct generalizing b with
  | case1 u v r ih =>
    cases b with
    | zero => simp [prs]
    | succ b => rw [show 2 * (b + 1) = 2 * b + 1 + 1 from by omega]; simp only [prs, List.take_succ_cons, ih]
  | case2 r hr =>
    have h1 : prs r = [] := by
      unfold prs
      split
      · rename_i a b c; exact (hr a b c rfl).elim
      · rfl
    have h2 : prs (r.take (2 * b)) = [] := by
      have := prs_len (r.take (2 * b))
      have h3 := prs_len r
      rw [h1] at h3
      simp only [List.length_nil] at h3
      have h4 : (r.take (2 * b)).length ≤ r.length := (List.take_sublist _ _).length_le
      exact List.length_eq_zero_iff.1 (by omega)
    rw [h1, h2]; simp
theorem symsP_prs : ∀ {l : List PK}, l.length % 2 = 0 → symsP (prs l) = symsP l
  | [], _ => rfl
  | [x], h => by simp at h
  | x :: y :: r, h => by
    have := symsP_prs (l := r) (by simp only [List.length_cons] at h; omega)
    simp only [symsP] at this
    simp only [symsP, prs, List.flatMap_cons, this, List.append_assoc]

section
variable {X : List PK} {R : Nat → List PK} (H : Rows X R)
include H
theorem Rows.sorted : ∀ t, Srt (R t)
  | 0 => by rw [H.zero]; exact H.srt
  | t + 1 => (H.succ t).1
theorem Rows.good : ∀ t, ∀ p ∈ R t, 0 < p.often_ ∧ 1 ≤ p.symbols_.length
  | 0, p, hp => by rw [H.zero] at hp; exact ⟨H.pos p hp, by rw [H.one p hp]; exact Nat.le_refl _⟩
  | t + 1, p, hp => by
    rcases List.mem_append.1 ((H.succ t).2.1.mem_iff.1 hp) with h | h
    · exact ⟨H.pos p h, by rw [H.one p h]; exact Nat.le_refl _⟩
    · obtain ⟨u, hu, v, hv, h1, h2⟩ := prs_mem h
      have := Rows.good t u hu
      have := Rows.good t v hv
      exact ⟨by omega, by rw [h2, List.length_append]; omega⟩
theorem Rows.two (t : Nat) : ∀ p ∈ prs (R t), isOne p = false := by
  intro p hp
  obtain ⟨u, hu, v, hv, _, h2⟩ := prs_mem hp
  have := (H.good t u hu).2
  have := (H.good t v hv).2
  simp only [isOne, h2, List.length_append, beq_eq_false_iff_ne]; omega
theorem Rows.ones : ∀ p ∈ X, isOne p = true := fun p hp => by simp [isOne, H.one p hp]
theorem Rows.singles (t : Nat) : (R (t + 1)).filter isOne = X := (H.succ t).kind isOne H.srt H.ones (H.two t)
theorem Rows.pairs (t : Nat) : (R (t + 1)).filter (fun p => !isOne p) = prs (R t) :=
  (H.succ t).kind2 (fun p => !isOne p) (prs_srt (H.sorted t)) (fun p hp => by simp [H.ones p hp]) (fun p hp => by simp [H.two t p hp])
theorem Rows.len (t : Nat) : (R (t + 1)).length = X.length + (R t).length / 2 := by
  rw [(H.succ t).2.1.length_eq, List.length_append, prs_len]
end

theorem take_filter {α : Type} (p : α → Bool) (l : List α) (m : Nat) : (l.take m).filter p = (l.filter p).take ((l.take m).filter p).length ∧ (l.drop m).filter p = (l.filter p).drop ((l.take m).filter p).length := by
  have h : l.filter p = (l.take m).filter p ++ (l.drop m).filter p := by rw [← List.filter_append, List.take_append_drop]
  constructor
  · conv => rhs; rw [h]
    simp
  · conv => rhs; rw [h]
    simp

/-- How many single ones, how many pairs are among the first. -/
def nOne (R : Nat → List PK) (t m : Nat) : Nat := (((R t).take m).filter isOne).length
def nTwo (R : Nat → List PK) (t m : Nat) : Nat := (((R t).take m).filter fun p => !isOne p).length
/-- .. and so on, row by row. -/
def lev (R : Nat → List PK) : Nat → Nat → List Nat
  | 0, m => [m]
  | t + 1, m => nOne R (t + 1) m :: lev R t (2 * nTwo R (t + 1) m)
section
variable {X : List PK} {R : Nat → List PK} (H : Rows X R)
include H
theorem Rows.takeOne (t m : Nat) : ((R (t + 1)).take m).filter isOne = X.take (nOne R (t + 1) m) := by
  have := (take_filter isOne (R (t + 1)) m).1
  rw [H.singles t] at this
  exact this
theorem Rows.takeTwo (t m : Nat) : ((R (t + 1)).take m).filter (fun p => !isOne p) = (prs (R t)).take (nTwo R (t + 1) m) := by
  have := (take_filter (fun p => !isOne p) (R (t + 1)) m).1
  rw [H.pairs t] at this
  exact this
theorem Rows.twoLe (t m : Nat) : 2 * nTwo R (t + 1) m ≤ (R t).length := by
  have h := congrArg List.length (H.pairs t)
  have h2 : nTwo R (t + 1) m ≤ ((R (t + 1)).filter fun p => !isOne p).length := by
    have := (List.take_sublist m (R (t + 1))).filter (fun p => !isOne p)
    exact this.length_le
  rw [h, prs_len] at h2
  omega
theorem Rows.oneLe (t m : Nat) : nOne R (t + 1) m ≤ X.length := by
  have h := congrArg List.length (H.singles t)
  have := ((List.take_sublist m (R (t + 1))).filter isOne).length_le
  rw [h] at this
  exact this
/-- How often a symbol comes. -/
theorem Rows.count (s : Int) : ∀ t m, m ≤ (R t).length → (symsP ((R t).take m)).count s = ((lev R t m).map fun a => (symsP (X.take a)).count s).sum
  | 0, m, h => by simp [lev, H.zero]
  | t + 1, m, h => by
    have hp := (List.filter_append_perm isOne ((R (t + 1)).take m)).flatMap_right (·.symbols_)
    have h1 := hp.count_eq s
    rw [List.flatMap_append, List.count_append, H.takeOne, H.takeTwo, prs_take] at h1
    have h2 := H.twoLe t m
    have h3 : ((R t).take (2 * nTwo R (t + 1) m)).length = 2 * nTwo R (t + 1) m := by rw [List.length_take, Nat.min_eq_left h2]
    have h4 := symsP_prs (l := (R t).take (2 * nTwo R (t + 1) m)) (by rw [h3]; omega)
    have h5 := Rows.count s t (2 * nTwo R (t + 1) m) h2
    simp only [symsP] at h4 h5 ⊢
    rw [← h1, h4, h5]
    simp [lev]
/-- The rows tell no less ahead. -/
theorem Rows.mono (t m : Nat) : ∀ a, (lev R t (2 * nTwo R (t + 1) m)).head? = some a → a ≤ nOne R (t + 1) m := by
  intro a ha
  obtain ⟨b, hb⟩ : ∃ b, nTwo R (t + 1) m = b := ⟨_, rfl⟩
  have hbl := H.twoLe t m
  have hTwo := H.takeTwo t m
  have hOne := H.takeOne t m
  rw [hb] at ha hbl hTwo
  -- the single ones among the first 2b
  have hal : ((R t).take (2 * b)).filter isOne = X.take a ∧ a ≤ X.length := by
    cases t with
    | zero =>
      simp only [lev, List.head?_cons, Option.some.injEq] at ha
      subst ha
      rw [H.zero] at hbl ⊢
      exact ⟨List.filter_eq_self.2 fun p hp => H.ones p (List.mem_of_mem_take hp), hbl⟩
    | succ t =>
      simp only [lev, List.head?_cons, Option.some.injEq] at ha
      subst ha
      exact ⟨H.takeOne t (2 * b), H.oneLe t (2 * b)⟩
  refine Nat.le_of_not_lt fun hlt => ?_
  obtain ⟨c, hc⟩ : ∃ c, nOne R (t + 1) m = c := ⟨_, rfl⟩
  rw [hc] at hlt hOne
  have hcx : c < X.length := by omega
  -- the first 2b: the last two
  have hb0 : 0 < b := by
    refine Nat.pos_of_ne_zero fun h0 => ?_
    subst h0
    have := congrArg List.length hal.1
    simp at this; omega
  obtain ⟨T, u, v, hT, hTl⟩ : ∃ T u v, (R t).take (2 * b) = T ++ [u, v] ∧ T.length = 2 * (b - 1) := by
    have hl : ((R t).take (2 * b)).length = 2 * b := by rw [List.length_take, Nat.min_eq_left hbl]
    rcases snocCases ((R t).take (2 * b)) with h | ⟨T1, v, h⟩
    · rw [h] at hl; simp at hl; omega
    · rcases snocCases T1 with h' | ⟨T, u, h'⟩
      · rw [h, h'] at hl; simp at hl; omega
      · refine ⟨T, u, v, by rw [h, h']; simp, ?_⟩
        rw [h, h'] at hl; simp only [List.length_append, List.length_cons, List.length_nil] at hl; omega
  have hq : (⟨u.often_ + v.often_, u.symbols_ ++ v.symbols_⟩ : PK) ∈ (R (t + 1)).take m := by
    have : (⟨u.often_ + v.often_, u.symbols_ ++ v.symbols_⟩ : PK) ∈ ((R (t + 1)).take m).filter (fun p => !isOne p) := by
      rw [hTwo, prs_take, hT, prs_app _ (by omega)]
      simp [prs]
    exact (List.mem_filter.1 this).1
  have hx : X[c] ∈ (R (t + 1)).drop m := by
    have h1 := (take_filter isOne (R (t + 1)) m).2
    rw [H.singles t, show (((R (t + 1)).take m).filter isOne).length = c from hc] at h1
    have : X[c] ∈ ((R (t + 1)).drop m).filter isOne := by
      rw [h1, List.drop_eq_getElem_cons hcx]; exact List.mem_cons_self ..
    exact (List.mem_filter.1 this).1
  have hs := H.sorted (t + 1)
  rw [← List.take_append_drop m (R (t + 1))] at hs
  have g1 := hs.cross _ hq _ hx
  have hx2 : X[c] ∈ T ++ [u, v] := by
    rw [← hT]
    have : X[c] ∈ ((R t).take (2 * b)).filter isOne := by
      rw [hal.1, List.mem_take_iff_getElem]
      exact ⟨c, by omega, rfl⟩
    exact (List.mem_filter.1 this).1
  have hs2 := (H.sorted t).sublist (List.take_sublist (2 * b) (R t))
  rw [hT] at hs2
  have hu : 0 < u.often_ := (H.good t u (List.mem_of_mem_take (by rw [hT]; simp : u ∈ (R t).take (2 * b)))).1
  have g2 : X[c].often_ ≤ v.often_ := by
    rcases List.mem_append.1 hx2 with h | h
    · exact Srt.cross (show Srt (T ++ [u, v]) from hs2) _ h v (by simp)
    · simp at h
      rcases h with h | h
      · rw [h]; exact Srt.cross (A := [u]) (B := [v]) (Srt.right (A := T) hs2) u (by simp) v (by simp)
      · rw [h]; exact Int.le_refl _
  simp only at g1
  omega
end

def wsum : List Nat → Nat
  | [] => 0
  | a :: r => a * 2 ^ r.length + wsum r
/-- How many reach beyond i. -/
def hgt (as : List Nat) (i : Nat) : Nat := (as.filter fun a => decide (i < a)).length
end Go.Pu

/- The lengths of a code: what the program finds. -/
set_option maxRecDepth 100000
namespace Go.Pu
open Go Go.Sl Go.Mo

/-- The symbols that come at all, each a packet. -/
def sgl : List Int → Nat → List PK
  | [], _ => []
  | n :: r, i => if 0 < n then ⟨n, [(i : Int)]⟩ :: sgl r (i + 1) else sgl r (i + 1)
def bigO (n : Int) : Bool := decide (n < 0) || decide (n > 1099511627776)
/-- What may be asked. -/
def okO (often : List Int) (most : Int) : Prop := 1 ≤ most ∧ most ≤ 15 ∧ often.length ≤ 320 ∧ (∀ n ∈ often, 0 ≤ n ∧ n ≤ 1099511627776) ∧ (sgl often 0).length ≤ 2 ^ most.toNat
instance (often : List Int) (most : Int) : Decidable (okO often most) := by unfold okO; exact inferInstance
def cntL (N : Nat) (D : List Int) : List Int := (List.range N).map fun (j : Nat) => ((D.count (j : Int) : Nat) : Int)
end Go.Pu

/- The lengths of a code: what they are. -/
set_option maxRecDepth 100000
namespace Go.Pu
open Go Go.Sl Go.Mo

/-- The rows, as the program merges them. -/
def rowsM (K : Nat) (X : List PK) : Nat → List PK
  | 0 => X
  | t + 1 => match huff_merged.m K X (prs (rowsM K X t)) with
    | .ok r => r
    | _ => []
section
variable {X : List PK} {R : Nat → List PK} (H : Rows X R)
include H
theorem Rows.size : ∀ t m, m ≤ (R t).length → (symsP ((R t).take m)).length ≤ (t + 1) * X.length
  | 0, m, h => by
    rw [H.zero]
    have : ∀ l : List PK, (∀ p ∈ l, p.symbols_.length = 1) → (symsP l).length = l.length := by
      intro l
      induction l with
      | nil => intro _; rfl
      | cons p l ih => intro hh; simp only [symsP, List.flatMap_cons, List.length_append, List.length_cons] at ih ⊢; rw [ih (fun q hq => hh q (by simp [hq])), hh p (by simp)]; omega
    rw [this _ (fun p hp => H.one p (List.mem_of_mem_take hp))]
    have := (List.take_sublist m X).length_le
    omega
  | t + 1, m, h => by
    have hp := (List.filter_append_perm isOne ((R (t + 1)).take m)).flatMap_right (·.symbols_)
    have h1 := hp.length_eq
    rw [List.flatMap_append, List.length_append, H.takeOne, H.takeTwo, prs_take] at h1
    have h2 := H.twoLe t m
    have h3 : ((R t).take (2 * nTwo R (t + 1) m)).length = 2 * nTwo R (t + 1) m := by rw [List.length_take, Nat.min_eq_left h2]
    have h4 := symsP_prs (l := (R t).take (2 * nTwo R (t + 1) m)) (by rw [h3]; omega)
    have h5 := Rows.size t (2 * nTwo R (t + 1) m) h2
    have h6 : (symsP (X.take (nOne R (t + 1) m))).length ≤ X.length := by
      have : ∀ l : List PK, (∀ p ∈ l, p.symbols_.length = 1) → (symsP l).length = l.length := by
        intro l
        induction l with
        | nil => intro _; rfl
        | cons p l ih => intro hh; simp only [symsP, List.flatMap_cons, List.length_append, List.length_cons] at ih ⊢; rw [ih (fun q hq => hh q (by simp [hq])), hh p (by simp)]; omega
      rw [this _ (fun p hp => H.one p (List.mem_of_mem_take hp))]
      exact (List.take_sublist _ X).length_le
    simp only [symsP] at h4 h5 h6 ⊢
    rw [h4] at h1
    rw [Nat.add_mul (t + 1) 1, Nat.one_mul]
    omega
end

/-! ## The symbols' places -/
theorem sgl_sym : ∀ (l : List Int) (i : Nat), ∀ p ∈ sgl l i, ∃ j, j < l.length ∧ 0 < rd l (j : Int) ∧ p = ⟨rd l (j : Int), [((i + j : Nat) : Int)]⟩
  | [], _, p, hp => by simp [sgl] at hp
  | n :: r, i, p, hp => by
    have tail : p ∈ sgl r (i + 1) → ∃ j, j < (n :: r).length ∧ 0 < rd (n :: r) (j : Int) ∧ p = ⟨rd (n :: r) (j : Int), [((i + j : Nat) : Int)]⟩ := by
      intro h
      obtain ⟨j, h1, h2, h3⟩ := sgl_sym r (i + 1) p h
      refine ⟨j + 1, by simp; exact h1, ?_, ?_⟩
      · have : rd (n :: r) ((j + 1 : Nat) : Int) = rd r (j : Int) := by simp [rd]
        rw [this]; exact h2
      · have : rd (n :: r) ((j + 1 : Nat) : Int) = rd r (j : Int) := by simp [rd]
        rw [this, h3]; simp; omega
    unfold sgl at hp
    split at hp
    · rename_i h0
      rcases List.mem_cons.1 hp with rfl | hp
      · exact ⟨0, by simp, by simpa [rd] using h0, by simp [rd]⟩
      · exact tail hp
    · exact tail hp
theorem sgl_has : ∀ (l : List Int) (i j : Nat), j < l.length → 0 < rd l (j : Int) → (⟨rd l (j : Int), [((i + j : Nat) : Int)]⟩ : PK) ∈ sgl l i
  | [], _, j, h, _ => by simp at h
  | n :: r, i, 0, h, h0 => by
    have : 0 < n := by simpa [rd] using h0
    simp [sgl, this, rd]
  | n :: r, i, j + 1, h, h0 => by
    have e : rd (n :: r) ((j + 1 : Nat) : Int) = rd r (j : Int) := by simp [rd]
    rw [e] at h0 ⊢
    have := sgl_has r (i + 1) j (by simpa using h) h0
    rw [show ((i + 1 + j : Nat) : Int) = ((i + (j + 1) : Nat) : Int) from by omega] at this
    unfold sgl
    split
    · exact List.mem_cons_of_mem _ this
    · exact this
theorem sgl_nodup : ∀ (l : List Int) (i : Nat), (symsP (sgl l i)).Nodup
  | [], _ => by simp [sgl, symsP]
  | n :: r, i => by
    have ih := sgl_nodup r (i + 1)
    unfold sgl
    split
    · simp only [symsP, List.flatMap_cons, List.singleton_append] at ih ⊢
      refine List.nodup_cons.2 ⟨fun h => ?_, ih⟩
      obtain ⟨p, hp, hs⟩ := List.mem_flatMap.1 h
      obtain ⟨j, _, _, rfl⟩ := sgl_sym r (i + 1) p hp
      simp at hs; omega
    · exact ih
end Go.Pu

/- The lengths of a code: a code's; none above the most; whoever comes more often has no longer code. -/
set_option maxRecDepth 100000
namespace Go.Pu
open Go Go.Sl Go.Mo

structure LensOk (often : List Int) (most : Int) (l : List Int) : Prop where
  len : l.length = often.length
  rng : ∀ j : Nat, j < often.length → 0 ≤ rd l (j : Int) ∧ rd l (j : Int) ≤ most
  zero : ∀ j : Nat, j < often.length → (rd l (j : Int) = 0 ↔ rd often (j : Int) = 0)
  chk : sCheck l = 0
  mono : ∀ i k : Nat, i < often.length → k < often.length → 0 < rd often (i : Int) → rd often (i : Int) < rd often (k : Int) → rd l (k : Int) ≤ rd l (i : Int)

def wt (x : Int) : Nat := if 0 < x ∧ x < 16 then 2 ^ (15 - x.toNat) else 0
theorem symsP_one : ∀ (X : List PK), (∀ p ∈ X, p.symbols_.length = 1) → (symsP X).length = X.length
  | [], _ => rfl
  | p :: X, h => by
    have := symsP_one X (fun q hq => h q (by simp [hq]))
    simp only [symsP] at this
    simp only [symsP, List.flatMap_cons, List.length_append, List.length_cons, this, h p (by simp)]; omega
theorem symsP_get : ∀ (X : List PK) (i : Nat), (∀ p ∈ X, p.symbols_.length = 1) → i < X.length → ∃ s, (symsP X)[i]? = some s ∧ (rd X (i : Int)).symbols_ = [s]
  | [], i, _, h => by simp at h
  | p :: X, 0, h, _ => by
    obtain ⟨s, hs⟩ := List.length_eq_one_iff.1 (h p (by simp))
    exact ⟨s, by simp [symsP, hs], by simp [rd, hs]⟩
  | p :: X, i + 1, h, hi => by
    obtain ⟨s0, hs0⟩ := List.length_eq_one_iff.1 (h p (by simp))
    obtain ⟨s, h1, h2⟩ := symsP_get X i (fun q hq => h q (by simp [hq])) (by simpa using hi)
    refine ⟨s, ?_, ?_⟩
    · simp only [symsP] at h1
      simp [symsP, hs0, h1]
    · have : rd (p :: X) ((i + 1 : Nat) : Int) = rd X (i : Int) := by simp [rd]
      rw [this]; exact h2
/-- Facts on the symbols that come at all. -/
structure Places (often : List Int) (X : List PK) : Prop where
  one : ∀ p ∈ X, p.symbols_.length = 1
  nod : (symsP X).Nodup
  sym : ∀ i, i < X.length → ∃ j : Nat, j < often.length ∧ 0 < rd often (j : Int) ∧ (symsP X)[i]? = some (j : Int) ∧ (rd X (i : Int)).often_ = rd often (j : Int)
  has : ∀ j : Nat, j < often.length → 0 < rd often (j : Int) → ∃ i, i < X.length ∧ (symsP X)[i]? = some (j : Int)
theorem places {often : List Int} {X : List PK} (h : X.Perm (sgl often 0)) : Places often X := by
  have one : ∀ p ∈ X, p.symbols_.length = 1 := fun p hp => by
    obtain ⟨j, _, _, rfl⟩ := sgl_sym often 0 p (h.mem_iff.1 hp)
    rfl
  have hp : (symsP X).Perm (symsP (sgl often 0)) := List.Perm.flatMap_right (fun p : PK => p.symbols_) h
  refine ⟨one, hp.nodup_iff.2 (sgl_nodup often 0), fun i hi => ?_, fun j hj h0 => ?_⟩
  · have hm : rd X (i : Int) ∈ X := by simp only [rd, Int.toNat_natCast, List.getD, List.getElem?_eq_getElem hi]; exact List.getElem_mem hi
    obtain ⟨j, h1, h2, h3⟩ := sgl_sym often 0 _ (h.mem_iff.1 hm)
    obtain ⟨s, h4, h5⟩ := symsP_get X i one hi
    have e : s = ((0 + j : Nat) : Int) := by rw [h3] at h5; simpa using h5.symm
    rw [Nat.zero_add] at e
    exact ⟨j, h1, h2, by rw [h4, e], by rw [h3]⟩
  · have hm := h.mem_iff.2 (sgl_has often 0 j hj h0)
    have hs : ((0 + j : Nat) : Int) ∈ symsP X := by
      unfold symsP
      exact List.mem_flatMap.2 ⟨_, hm, by simp⟩
    obtain ⟨i, hi, he⟩ := List.getElem_of_mem hs
    rw [symsP_one X one] at hi
    rw [Nat.zero_add] at he
    exact ⟨i, hi, by rw [List.getElem?_eq_getElem (by rw [symsP_one X one]; exact hi), he]⟩

end Go.Pu

/- The lengths of a code: the whole. -/
set_option maxRecDepth 100000
namespace Go.Pu
open Go Go.Sl Go.Mo

end Go.Pu

/- Tables; the fixed codes; rows of lengths. -/
namespace Go.Pu
open Go Go.Sl Go.Mo

def fixL : List Int := (List.range 288).map fun i => if i < 144 ∨ 279 < i then 8 else if i < 256 then 9 else 7
def fixD : List Int := List.replicate 32 5
theorem fixL_ok : sCheck fixL = 0 := by decide +kernel
theorem fixD_ok : sCheck fixD = 0 := by decide +kernel
theorem refFixed0 (m : Nat) : mortiseref07_Fixed.m (m + 300) = .ok (fixL, fixD) := by kernel_rfl
theorem refFixed (K : Nat) (hK : 1000 < K) : mortiseref07_Fixed.m K = .ok (fixL, fixD) := by
  obtain ⟨m, rfl⟩ : ∃ m, K = m + 300 := ⟨K - 300, by omega⟩
  exact refFixed0 m

/-- So many lengths, by a code of lengths; so many symbols at most. -/
def sRow (t : List UInt8) (c : List Int) (n : Nat) : Nat → Nat → List Int → Except Int (Nat × List Int)
  | 0, _, _ => .error (-1)
  | k + 1, p, out =>
    if out.length < n then
      match sNext c t p with
      | .error e => .error e
      | .ok (x, q) =>
        if x < 16 then sRow t c n k q (out ++ [(x : Int)])
        else if x = 16 then
          if out.length = 0 then .error 3
          else match sBits t q 2 with
            | .error e => .error e
            | .ok (v, q') => if out.length + (3 + v) ≤ n then sRow t c n k q' (out ++ List.replicate (3 + v) (out.getD (out.length - 1) 0)) else .error 3
        else if x = 17 then
          match sBits t q 3 with
          | .error e => .error e
          | .ok (v, q') => if out.length + (3 + v) ≤ n then sRow t c n k q' (out ++ List.replicate (3 + v) 0) else .error 3
        else
          match sBits t q 7 with
          | .error e => .error e
          | .ok (v, q') => if out.length + (11 + v) ≤ n then sRow t c n k q' (out ++ List.replicate (11 + v) 0) else .error 3
    else .ok (p, out)

def pairJ (x : Nat × List Int) : List Int × Int := (x.2, (x.1 : Int))
end Go.Pu

/- Rows as the document reads them; the head of a block with codes of its own: the program. -/
namespace Go.Pu
open Go Go.Sl Go.Mo

def docRow (m : Res (List Int × Int × Int)) (s : Except Int (Nat × List Int)) : Prop :=
  match s with
  | .ok (q, out) => m = .ok (out, 0, (q : Int))
  | .error e => if e = -1 then m = .fail else ∃ p, m = .ok ([], e, p) ∧ e ≠ 0
def ordT : List Nat := [16, 17, 18, 0, 8, 7, 9, 6, 10, 5, 11, 4, 12, 3, 13, 2, 14, 1, 15]
/-- Lengths of the code of lengths. -/
def sLens (t : List UInt8) : Nat → Nat → Nat → List Int → Except Int (Nat × List Int)
  | 0, _, p, l => .ok (p, l)
  | m + 1, i, p, l =>
    match sBits t p 3 with
    | .error e => .error e
    | .ok (v, q) => sLens t m (i + 1) q (l.set (ordT.getD i 0) (v : Int))
def zer19 : List Int := List.replicate 19 0
/-- The head of a block with codes of its own. -/
def sDyn (t : List UInt8) (K p : Nat) : Except Int (Nat × List Int × List Int) :=
  match sBits t p 5 with
  | .error e => .error e
  | .ok (a, p1) =>
    match sBits t p1 5 with
    | .error e => .error e
    | .ok (b, p2) =>
      match sBits t p2 4 with
      | .error e => .error e
      | .ok (c, p3) =>
        if a ≤ 29 ∧ b ≤ 29 then
          match sLens t (4 + c) 0 p3 zer19 with
          | .error e => .error e
          | .ok (p4, l) =>
            if l ≠ zer19 ∧ sCheck l = 0 then
              match sRow t l (258 + a + b) K p4 [] with
              | .error e => .error e
              | .ok (p5, all) =>
                if all.getD 256 0 ≠ 0 ∧ sCheck (all.take (257 + a)) = 0 ∧ sCheck (all.drop (257 + a)) = 0 then .ok (p5, all.take (257 + a), all.drop (257 + a)) else .error 3
            else .error 3
        else .error 3
end Go.Pu

/- A block with codes of its own: both readers. -/
namespace Go.Pu
open Go Go.Sl Go.Mo

def tbl (l : List Int) : T_huff_Table := ⟨cs0 l, symsU l 16⟩
def dynI (x : Nat × List Int × List Int) : Option T_huff_Table × Option T_huff_Table × Int := (some (tbl x.2.1), some (tbl x.2.2), (x.1 : Int))

def ordI : List Int := [16, 17, 18, 0, 8, 7, 9, 6, 10, 5, 11, 4, 12, 3, 13, 2, 14, 1, 15]
end Go.Pu

/- Blocks, and all of them: both readers. -/
namespace Go.Pu
open Go Go.Sl Go.Mo

def sDynB (t : List UInt8) (L K p : Nat) (out : List Int) : Except Int (Nat × List Int) :=
  match sDyn t K p with
  | .error e => .error e
  | .ok (q, a, b) => sSyms t L a b K q out
end Go.Pu

/- Blocks, and all of them: both readers. -/
namespace Go.Pu
open Go Go.Sl Go.Mo

/-- What a block of a kind says. -/
def sKind (t : List UInt8) (L K : Nat) (kind p : Nat) (out : List Int) : Except Int (Nat × List Int) :=
  if kind = 0 then sStored t L p out
  else if kind = 1 then sSyms t L fixL fixD K p out
  else if kind = 2 then sDynB t L K p out
  else .error 3
def sBlock (t : List UInt8) (L K p : Nat) (out : List Int) : Except Int (Bool × Nat × List Int) :=
  match sBits t p 1 with
  | .error e => .error e
  | .ok (b, p1) =>
    match sBits t p1 2 with
    | .error e => .error e
    | .ok (kind, p2) =>
      match sKind t L K kind p2 out with
      | .error e => .error e
      | .ok (q, o) => .ok (b == 1, q, o)
def sInfl (t : List UInt8) (L K : Nat) : Nat → Nat → List Int → Except Int (Nat × List Int)
  | 0, _, _ => .error (-1)
  | k + 1, p, out =>
    match sBlock t L K p out with
    | .error e => .error e
    | .ok (last, q, o) => if last then .ok (q, o) else sInfl t L K k q o

/-! ## The program -/
def blkI (x : Bool × Nat × List Int) : Bool × Int × List Int := (x.1, (x.2.1 : Int), x.2.2)
/-- What inflating answers. -/
def aInfl (K : Nat) (t : List UInt8) (limit : Int) : List UInt8 × Int × Int :=
  if limit < 0 ∨ 1073741824 < limit then ([], 0, 1)
  else match sInfl t limit.toNat K K 0 [] with
    | .ok (q, out) => (out.map tob, (((q + 7) / 8 : Nat) : Int), 0)
    | .error e => ([], 0, e)
/-! ## The document -/
def docBlk (m : Res (Bool × Int × Int × List Int)) (s : Except Int (Bool × Nat × List Int)) : Prop :=
  match s with
  | .ok (b, q, out) => m = .ok (b, 0, (q : Int), out)
  | .error e => if e = -1 then m = .fail else ∃ b p out, m = .ok (b, e, p, out) ∧ e ≠ 0
end Go.Pu

/- InflateReads: the plain part. -/
namespace Go.Pu
open Go Go.Sl Go.Mo

end Go.Pu

/- More bytes behind: what is read is the same, unless it was cut. -/
namespace Go.Pu
open Go Go.Sl Go.Mo

def ext {β : Type} (a b : Except Int β) : Prop := a = .error 2 ∨ b = a
/-! ## The two laws -/
end Go.Pu

/- A limit that is just enough, and one that is one less. -/
namespace Go.Pu
open Go Go.Sl Go.Mo

/-- With the smaller limit: it is too small for what is said, or the same. -/
def lim (L : Nat) (a b : Except Int (Nat × List Int)) : Prop := (a = .error 11 ∧ ∀ q o, b = .ok (q, o) → L < o.length) ∨ a = b
def limB (L : Nat) (a b : Except Int (Bool × Nat × List Int)) : Prop := (a = .error 11 ∧ ∀ c q o, b = .ok (c, q, o) → L < o.length) ∨ a = b
end Go.Pu

/- A block as it is, laid ahead. -/
namespace Go.Pu
open Go Go.Sl Go.Mo

end Go.Pu

/- The document's writer of bits. -/
namespace Go.Pu
open Go Go.Sl Go.Mo

theorem putW_l3 (K n : Nat) (hn : n ≤ 32) : ∀ (j k i v : Nat) (B : List Int), i + j = n → j < k → v < 4294967296 → B.length + j < 1000000000000 →
    mortiseref05_Writer_Put.l3 K (n : Int) k B (v : Int) (i : Int) = .ok (0, B ++ bitsOf j v) := by
  intro j
  induction j with
  | zero =>
    intro k i v B hi hk _ _
    obtain ⟨k, rfl⟩ : ∃ m, k = m + 1 := ⟨k - 1, by omega⟩
    rw [mortiseref05_Writer_Put.l3]
    simp (disch := omega) only [Res.bind_ok, Res.bind_pan, chk_true, lt_eq, unw_some, cond_true, cond_false, cond_dec, cond_beq, cond_bne, cond_not, cond_and, cond_or, w64_id, wru8_id, wru32_id, wru64_id, wri64_id, inb_of, subok_of, room_of, fits_of, dec_nn, Int.toNat_natCast, if_neg, bitsOf, List.append_nil]
  | succ j ih =>
    intro k i v B hi hk hv hB
    obtain ⟨k, rfl⟩ : ∃ m, k = m + 1 := ⟨k - 1, by omega⟩
    rw [mortiseref05_Writer_Put.l3]
    have e1 : irem (v : Int) 2 = ((v % 2 : Nat) : Int) := irem_nat (b := 2)
    have e2 : wr .u8 ((v % 2 : Nat) : Int) = ((v % 2 : Nat) : Int) := wru8_id (by omega) (by omega)
    have e3 : iquo .u32 (v : Int) 2 = ((v / 2 : Nat) : Int) := by
      unfold iquo
      have h1 : (v : Int).tdiv 2 = ((v / 2 : Nat) : Int) := by rw [show (2 : Int) = ((2 : Nat) : Int) from rfl, Int.ofNat_tdiv]
      rw [h1]
      exact wru32_id (by omega) (by omega)
    have e4 : (i : Int) + 1 = ((i + 1 : Nat) : Int) := by push_cast; rfl
    have h1 : room (B.length + ([((v % 2 : Nat) : Int)] : List Int).length) 1 = true := room_of (by simp; omega)
    rw [e1, e2, e3, h1]
    simp (disch := omega) only [Res.bind_ok, Res.bind_pan, chk_true, lt_eq, unw_some, cond_true, cond_false, cond_dec, cond_beq, cond_bne, cond_not, cond_and, cond_or, w64_id, wru8_id, wru32_id, wru64_id, wri64_id, inb_of, subok_of, room_of, fits_of, dec_nn, Int.toNat_natCast, if_pos, e4]
    rw [ih k (i + 1) (v / 2) _ (by omega) (by omega) (by omega) (by simp; omega), bitsOf, List.append_assoc]
    rfl
theorem putW (K n v : Nat) (B : List Int) (hn : n ≤ 32) (hv : v < 2 ^ n) (hB : B.length < 100000000000) (hK : 32 < K) :
    mortiseref05_Writer_Put.m K ⟨B⟩ (v : Int) (n : Int) = .ok (0, B ++ bitsOf n v) := by
  unfold mortiseref05_Writer_Put.m
  have hp : 2 ^ n ≤ 2 ^ 32 := Nat.pow_le_pow_right (by decide) hn
  have fin : mortiseref05_Writer_Put.l3 K (n : Int) K B (v : Int) (0 : Int) = .ok (0, B ++ bitsOf n v) := putW_l3 K n hn n K 0 v B (by omega) (by omega) (by omega) (by omega)
  have h0 : (decide ((n : Int) < 0) || decide ((n : Int) > 32)) = false := by
    rw [Bool.or_eq_false_iff]; exact ⟨decide_eq_false (by omega), decide_eq_false (by omega)⟩
  rw [h0, cond_false]
  by_cases h : n < 32
  · have e1 : wr .u64 (n : Int) = (n : Int) := wru64_id (by omega) (by omega)
    have hp2 : 2 ^ n ≤ 2 ^ 31 := Nat.pow_le_pow_right (by decide) (by omega)
    have e2 : ishl .u32 (1 : Int) (n : Int) = ((1 * 2 ^ n : Nat) : Int) := ishl_u32 (a := 1) (by omega) (by omega)
    rw [decide_eq_true (show (n : Int) < 32 by omega), cond_true, e1, e2]
    simp only [decide_eq_true (show (0 : Int) ≤ (n : Int) by omega), chk_true]
    unfold mortiseref05_Writer_Put.j1 mortiseref05_Writer_Put.j2
    rw [decide_eq_false (show ¬ ((v : Int) ≥ ((1 * 2 ^ n : Nat) : Int)) by omega), cond_false]
    exact fin
  · rw [decide_eq_false (show ¬ ((n : Int) < 32) by omega), cond_false]
    unfold mortiseref05_Writer_Put.j1 mortiseref05_Writer_Put.j2
    exact fin
/-- Zeros up to a whole byte. -/
def padB (B : List Int) : List Int := B ++ List.replicate (8 * ((B.length + 7) / 8) - B.length) 0
def bits8 (x : UInt8) : List Int := bitsOf 8 x.toNat
/-! ## Bits as bytes -/
def outS (B : List Int) (i : Nat) : List Int := (List.range ((B.length + 7) / 8)).map fun j => ((nB B (8 * j) (min 8 (i - 8 * j)) : Nat) : Int)
theorem outS_len (B : List Int) (i : Nat) : (outS B i).length = (B.length + 7) / 8 := by simp [outS]
theorem outS_rd {B : List Int} {i j : Nat} (h : j < (B.length + 7) / 8) : rd (outS B i) (j : Int) = ((nB B (8 * j) (min 8 (i - 8 * j)) : Nat) : Int) := by
  rw [rd_nat (by rw [outS_len]; exact h)]
  simp [outS]
theorem stringW_l1 (K : Nat) (B : List Int) (h01 : bit01 B) (hB : B.length < 100000000000) : ∀ j k i, i + j = B.length → j < k →
    mortiseref05_Writer_String.l1 K ⟨B⟩ k (outS B i) (i : Int) = .ok (packB B) := by
  intro j
  induction j with
  | zero =>
    intro k i hi hk
    obtain ⟨k, rfl⟩ : ∃ m, k = m + 1 := ⟨k - 1, by omega⟩
    rw [mortiseref05_Writer_String.l1]
    simp (disch := omega) only [Res.bind_ok, Res.bind_pan, chk_true, lt_eq, unw_some, cond_true, cond_false, cond_dec, cond_beq, cond_bne, cond_not, cond_and, cond_or, w64_id, wru8_id, wru32_id, wru64_id, wri64_id, inb_of, subok_of, room_of, fits_of, dec_nn, Int.toNat_natCast, if_neg]
    have : (outS B i).map tob = packB B := by
      unfold outS packB
      rw [List.map_map]
      apply List.map_congr_left
      intro j hj
      have hj' := List.mem_range.1 hj
      simp only [Function.comp]
      have : nB B (8 * j) 8 = nB B (8 * j) (min 8 (i - 8 * j)) := by
        by_cases h8 : 8 ≤ i - 8 * j
        · rw [Nat.min_eq_left h8]
        · exact nB_more _ _ _ (by omega) (by omega)
      rw [this]
      unfold tob
      rw [Int.toNat_natCast]
    rw [this]
  | succ j ih =>
    intro k i hi hk
    obtain ⟨k, rfl⟩ : ∃ m, k = m + 1 := ⟨k - 1, by omega⟩
    rw [mortiseref05_Writer_String.l1]
    have hil : i < B.length := by omega
    have e1 : iquo .i64 (i : Int) 8 = ((i / 8 : Nat) : Int) := iquo_nat (b := 8) (by omega) (by omega)
    have e2 : irem (i : Int) 8 = ((i % 8 : Nat) : Int) := irem_nat (b := 8)
    have e3 : wr .u64 ((i % 8 : Nat) : Int) = ((i % 8 : Nat) : Int) := wru64_id (by omega) (by omega)
    have e4 : (i : Int) + 1 = ((i + 1 : Nat) : Int) := by push_cast; rfl
    have hq : i / 8 < (B.length + 7) / 8 := by omega
    have i1 : inb ((i / 8 : Nat) : Int) (outS B i).length = true := inb_of (by omega) (by rw [outS_len]; omega)
    rw [e1, e2, e3, i1, outS_rd hq]
    have hset : (outS B i).set (Int.toNat ((i / 8 : Nat) : Int)) (wr .u8 (((nB B (8 * (i / 8)) (min 8 (i - 8 * (i / 8))) : Nat) : Int) + ishl .u8 (rd B (i : Int)) ((i % 8 : Nat) : Int))) = outS B (i + 1) := by
      rw [show min 8 (i - 8 * (i / 8)) = i % 8 by omega, rd_getD]
      obtain ⟨b, hb, hb1⟩ : ∃ b : Nat, B.getD i 0 = (b : Int) ∧ b ≤ 1 := by
        rcases getD_01 h01 i with h | h
        · exact ⟨0, by rw [h]; rfl, by omega⟩
        · exact ⟨1, by rw [h]; rfl, by omega⟩
      have hpow : 2 ^ (i % 8) ≤ 2 ^ 7 := Nat.pow_le_pow_right (by decide) (by omega)
      have hm : b * 2 ^ (i % 8) ≤ 1 * 2 ^ (i % 8) := Nat.mul_le_mul_right _ hb1
      have hn := nB_lt h01 (8 * (i / 8)) (i % 8)
      rw [hb, ishl_u8 (by omega) (by omega), wru8_id (by omega) (by omega)]
      apply List.ext_getElem
      · simp [outS]
      · intro j' h1 h2
        have hj' : j' < (B.length + 7) / 8 := by simpa [outS] using h2
        rw [List.getElem_set]
        simp only [outS, List.getElem_map, List.getElem_range, Int.toNat_natCast]
        by_cases hij : i / 8 = j'
        · subst hij
          rw [if_pos rfl, show min 8 (i + 1 - 8 * (i / 8)) = i % 8 + 1 by omega, nB, show 8 * (i / 8) + i % 8 = i by omega, hb, Int.toNat_natCast]
          push_cast; rfl
        · rw [if_neg hij]
          congr 2
          omega
    rw [hset]
    simp (disch := omega) only [Res.bind_ok, Res.bind_pan, chk_true, lt_eq, unw_some, cond_true, cond_false, cond_dec, cond_beq, cond_bne, cond_not, cond_and, cond_or, w64_id, wru8_id, wru32_id, wru64_id, wri64_id, inb_of, subok_of, room_of, fits_of, dec_nn, Int.toNat_natCast, if_pos, e4]
    exact ih k (i + 1) (by omega) (by omega)
theorem stringW (K : Nat) (B : List Int) (h01 : bit01 B) (hB : B.length < 100000000000) (hK : B.length < K) : mortiseref05_Writer_String.m K ⟨B⟩ = .ok (packB B) := by
  unfold mortiseref05_Writer_String.m
  dsimp only
  have e1 : w64 ((B.length : Int) + 7) = ((B.length + 7 : Nat) : Int) := by rw [w64_id (by omega) (by omega)]; push_cast; rfl
  have e2 : iquo .i64 ((B.length + 7 : Nat) : Int) 8 = (((B.length + 7) / 8 : Nat) : Int) := iquo_nat (b := 8) (by omega) (by omega)
  have hr : (decide ((0 : Int) ≤ (((B.length + 7) / 8 : Nat) : Int)) && room (((B.length + 7) / 8 : Nat) : Int).toNat 1) = true := by
    rw [Int.toNat_natCast, room_of (by omega), Bool.and_true]; exact decide_eq_true (by omega)
  rw [e1, e2, hr]
  simp only [chk_true, lt_eq]
  have e3 : List.replicate (((B.length + 7) / 8 : Nat) : Int).toNat (0 : Int) = outS B 0 := by
    rw [Int.toNat_natCast]
    symm
    unfold outS
    rw [List.eq_replicate_iff]
    refine ⟨by simp, fun x hx => ?_⟩
    obtain ⟨j, _, rfl⟩ := List.mem_map.1 hx
    rw [show min 8 (0 - 8 * j) = 0 by omega]
    rfl
  rw [e3]
  exact stringW_l1 K B h01 hB B.length K 0 (by omega) hK
end Go.Pu

/- Huff: HuffBack. -/
namespace Go.Pu
open Go Go.Sl Go.Mo

/-- Symbols that have a code. -/
def good (l : List Int) (S : List Nat) : Prop := ∀ s ∈ S, s < l.length ∧ 0 < l.getD s 0
end Go.Pu

/- Tokens as bits: both writers. -/
set_option maxRecDepth 100000
namespace Go.Pu
open Go Go.Sl Go.Mo

/-- A token's bits. -/
def tbits (ll dl : List Int) (t : Tok) : List Int :=
  if t.Dist_ = 0 then sb ll t.Lit_.toNat
  else sb ll (lsym t.Len_.toNat) ++ bitsOf (lenOf (lsym t.Len_.toNat)).2 (t.Len_.toNat - (lenOf (lsym t.Len_.toNat)).1) ++
    (sb dl (dsym t.Dist_.toNat) ++ bitsOf (dstOf (dsym t.Dist_.toNat)).2 (t.Dist_.toNat - (dstOf (dsym t.Dist_.toNat)).1))
/-- A block's bits behind its head. -/
def blkB (ll dl : List Int) (l : List Tok) : List Int := l.flatMap (tbits ll dl) ++ sb ll 256

theorem sym1 : (fun K w (_ : T_deflate_code) s => deflate_writer_symbol.m K w w.literals_ s) = deflate_writer_symbol_1279.m := by kernel_rfl
theorem sym2 : (fun K w (_ : T_deflate_code) s => deflate_writer_symbol.m K w w.distances_ s) = deflate_writer_symbol_7ef6.m := by kernel_rfl
theorem codesL_rd {l : List Int} {s : Nat} (hs : s < l.length) : rd (codesL l) (s : Int) = (cod l s : Int) := by
  rw [rd_nat (by rw [codesL_len]; exact hs)]; simp [codesL]
theorem getD_rd {l : List Int} {s : Nat} (hs : s < l.length) : l.getD s 0 = rd l (s : Int) := by
  simp [rd, List.getD, hs]
/-- A code's bits, one by one, the highest first. -/
theorem symLoop (K : Nat) (hK : 32 < K) (lc dc c : T_deflate_code) (l : List Int) (hl : c.codes_ = codesL l) (s : Nat) (hs : s < l.length) (hcod : cod l s < 1073741824) (W : T_bits_Writer) :
    ∀ (k n : Nat) (B : List Int), bit01 B → n < k → n ≤ 15 → B.length + n < 549755813888 →
    deflate_writer_symbol.l1 K ⟨W, lc, dc⟩ c (s : Int) k (B.length : Int) (bytB B) ((n : Int) - 1) = .ok (((B ++ cb n (cod l s)).length : Int), bytB (B ++ cb n (cod l s))) := by
  intro k
  induction k with
  | zero => intro n B _ h; omega
  | succ k ih =>
    intro n B h hk hn hB
    rw [deflate_writer_symbol.l1, cond_dec]
    cases n with
    | zero => rw [if_neg (by omega)]; simp [cb]
    | succ n =>
      rw [if_pos (by omega), hl, codesL_len, inb_nat hs, chk_true, dec_nn (by omega), chk_true, codesL_rd hs, show (((n + 1 : Nat) : Int) - 1) = (n : Int) from by omega,
        ishr_nat (by show n ≤ 64; omega)]
      have e1 : wr .u32 (iand .i64 ((cod l s / 2 ^ n : Nat) : Int) 1) = ((cod l s / 2 ^ n % 2 : Nat) : Int) := by
        have hd : cod l s / 2 ^ n ≤ cod l s := Nat.div_le_self _ _
        have := iand_i64 (a := cod l s / 2 ^ n) (b := 1) (by omega) (by omega)
        rw [show ((1 : Nat) : Int) = 1 from rfl] at this
        rw [this, Nat.and_one_is_mod, wru32_id (by omega) (by omega)]
      have e2 := wPut K B h 1 (cod l s / 2 ^ n % 2) (by omega) (by omega) (by omega) hK lc dc
      rw [show ((1 : Nat) : Int) = 1 from rfl] at e2
      rw [e1, e2, Res.bind_ok]
      dsimp only
      rw [w64_id (by omega) (by omega), lt_eq, ih n _ (bit01_app h (bitsOf_01 _ _)) (by omega) (by omega) (by rw [List.length_append, bitsOf_len]; omega)]
      have e3 : bitsOf 1 (cod l s / 2 ^ n % 2) = [((cod l s / 2 ^ n % 2 : Nat) : Int)] := by simp [bitsOf]
      rw [e3]
      simp [cb]
theorem codLt {l : List Int} (h : sCheck l = 0) {s : Nat} (hs : s < l.length) : cod l s < 1073741824 := by
  have hok := sCheck_ok h
  have hx := hok.2 l[s] (List.getElem_mem hs)
  obtain ⟨n, hn⟩ : ∃ n : Nat, l[s] = (n : Int) := ⟨l[s].toNat, by have := hx.1; omega⟩
  have hn15 : n ≤ 15 := by have := hx.2; omega
  by_cases h0 : n = 0
  · unfold cod; rw [getD_eq hs, hn, if_neg (by omega)]; omega
  · have := cod_top h hs hn (by omega)
    have h2 : 2 ^ n ≤ 2 ^ 15 := Nat.pow_le_pow_right (by decide) hn15
    omega
/-- A symbol is written by its code. -/
theorem wSym (K : Nat) (hK : 32 < K) (lc dc c : T_deflate_code) (l : List Int) (h : sCheck l = 0) (hc : c = ⟨l, codesL l⟩) (s : Nat) (hs : s < l.length) (B : List Int) (hB : bit01 B) (hBl : B.length < 274877906944) :
    deflate_writer_symbol.m K ⟨⟨⟨(B.length : Int)⟩, bytB B⟩, lc, dc⟩ c (s : Int) = .ok (((B ++ sb l s).length : Int), bytB (B ++ sb l s)) := by
  have hok := sCheck_ok h
  have hx := hok.2 l[s] (List.getElem_mem hs)
  obtain ⟨n, hn⟩ : ∃ n : Nat, l[s] = (n : Int) := ⟨l[s].toNat, by have := hx.1; omega⟩
  have hn15 : n ≤ 15 := by have := hx.2; omega
  unfold deflate_writer_symbol.m
  subst hc
  dsimp only
  rw [inb_nat hs, chk_true, ← getD_rd hs, getD_eq hs, hn, w64_id (by omega) (by omega), lt_eq]
  have := symLoop K hK lc dc ⟨l, codesL l⟩ l rfl s hs (codLt h hs) ⟨⟨(B.length : Int)⟩, bytB B⟩ K n B hB (by omega) hn15 (by omega)
  rw [this]
  unfold sb
  rw [getD_eq hs, hn, Int.toNat_natCast]
theorem sb_01 (l : List Int) (s : Nat) : bit01 (sb l s) := cb_01 _ _
theorem sb_len {l : List Int} (h : okL l) {s : Nat} (hs : s < l.length) : (sb l s).length ≤ 15 := by
  unfold sb
  rw [cb_len, getD_eq hs]
  have hx : inR l[s] := h.2 l[s] (List.getElem_mem hs)
  unfold inR at hx
  omega

/-- What is known of tokens: they may be; their literals are bytes. -/
def goodT (l : List Tok) : Prop := ∀ t ∈ l, tokB t = true ∧ 0 ≤ t.Lit_ ∧ t.Lit_ < 256
theorem tok_cases {t : Tok} (h : tokB t = true) (h0 : 0 ≤ t.Lit_) (h1 : t.Lit_ < 256) : (t.Dist_ = 0 ∧ t.Len_ = 0 ∧ ∃ c : Nat, c < 256 ∧ t.Lit_ = (c : Int)) ∨ (t.Dist_ ≠ 0 ∧ ∃ n d : Nat, 3 ≤ n ∧ n ≤ 258 ∧ 1 ≤ d ∧ d ≤ 32768 ∧ t.Len_ = (n : Int) ∧ t.Dist_ = (d : Int)) := by
  unfold tokB at h
  by_cases hd : t.Dist_ = 0
  · rw [if_pos hd, decide_eq_true_eq] at h
    exact .inl ⟨hd, h, t.Lit_.toNat, by omega, by omega⟩
  · rw [if_neg hd, decide_eq_true_eq] at h
    exact .inr ⟨hd, t.Len_.toNat, t.Dist_.toNat, by omega, by omega, by omega, by omega, by omega, by omega⟩
/-- Codes for literals, lengths and distances. -/
structure Codes (ll dl : List Int) : Prop where
  chkL : sCheck ll = 0
  chkD : sCheck dl = 0
  lenL : 286 ≤ ll.length
  lenD : 30 ≤ dl.length
theorem tbits_01 (ll dl : List Int) (t : Tok) : bit01 (tbits ll dl t) := by
  unfold tbits
  split
  · exact sb_01 _ _
  · exact bit01_app (bit01_app (sb_01 _ _) (bitsOf_01 _ _)) (bit01_app (sb_01 _ _) (bitsOf_01 _ _))
theorem lsym_facts {n : Nat} (h1 : 3 ≤ n) (h2 : n ≤ 258) : LSym n (lsym n) (n - (lenOf (lsym n)).1) := by
  obtain ⟨s, e, h, _⟩ := progLength 301 n h1 h2 (by decide)
  have h0 := h.eq
  subst h0
  have : e = n - (lenOf (lsym n)).1 := by have := h.sum; omega
  subst this; exact h
theorem dsym_facts {n : Nat} (h1 : 1 ≤ n) (h2 : n ≤ 32768) : DSym n (dsym n) (n - (dstOf (dsym n)).1) := by
  obtain ⟨s, e, h, _⟩ := progDistance 40000 n h1 h2 (by decide)
  have h0 := h.eq
  subst h0
  have : e = n - (dstOf (dsym n)).1 := by have := h.sum; omega
  subst this; exact h
theorem tbits_len {ll dl : List Int} (C : Codes ll dl) {t : Tok} (h : tokB t = true) (h0 : 0 ≤ t.Lit_) (h1 : t.Lit_ < 256) : (tbits ll dl t).length ≤ 48 := by
  have hl := C.lenL; have hd := C.lenD
  unfold tbits
  rcases tok_cases h h0 h1 with ⟨e1, _, c, hc, e2⟩ | ⟨e1, n, d, n1, n2, d1, d2, e2, e3⟩
  · rw [if_pos e1, e2, Int.toNat_natCast]
    have := sb_len (sCheck_ok C.chkL) (s := c) (by omega); omega
  · rw [if_neg e1, e2, e3, Int.toNat_natCast, Int.toNat_natCast]
    have L := lsym_facts n1 n2
    have D := dsym_facts d1 d2
    have := sb_len (sCheck_ok C.chkL) (s := lsym n) (by have := L.hi; omega)
    have := sb_len (sCheck_ok C.chkD) (s := dsym d) (by have := D.hi; omega)
    have := L.small; have := D.small
    simp only [List.length_append, bitsOf_len]; omega

/-- The program writes a block's tokens. -/
theorem wTokens (K : Nat) (hK : 40000 ≤ K) (ll dl : List Int) (C : Codes ll dl) (l : List Tok) (hl : l.length < 1000000000) : ∀ (k : Nat) (D T : List Tok) (B : List Int), D ++ T = l → goodT T → T.length < k → bit01 B → B.length + 48 * T.length < 137438953472 → ∀ W,
    deflate_writer_tokens.l1 K ⟨W, ⟨ll, codesL ll⟩, ⟨dl, codesL dl⟩⟩ l k (B.length : Int) (bytB B) (D.length : Int) = .ok (((B ++ blkB ll dl T).length : Int), bytB (B ++ blkB ll dl T)) := by
  intro k
  induction k with
  | zero => intro D T B _ _ h; omega
  | succ k ih =>
    intro D T B h1 h2 h3 hB hBl W
    have hlen : D.length + T.length = l.length := by rw [← h1]; simp
    have hlL := C.lenL; have hlD := C.lenD
    rw [deflate_writer_tokens.l1, cond_dec]
    cases T with
    | nil =>
      rw [if_neg (by simp only [List.length_nil] at hlen; omega)]
      unfold deflate_writer_tokens.j2
      have hs := wSym K (by omega) ⟨ll, codesL ll⟩ ⟨dl, codesL dl⟩ ⟨ll, codesL ll⟩ ll C.chkL rfl 256 (by omega) B hB (by simp only [List.length_nil] at hBl; omega)
      rw [show ((256 : Nat) : Int) = 256 from rfl] at hs
      rw [← sym1]
      dsimp only
      rw [hs, Res.bind_ok]
      simp [blkB]
    | cons t T =>
      simp only [List.length_cons] at h3 hlen hBl
      have ht := h2 t (by simp)
      have hrd : rd l (D.length : Int) = t := by rw [← h1]; exact rd_at _ _ _ rfl
      have hw : w64 ((D.length : Int) + 1) = ((D ++ [t]).length : Int) := by rw [w64_id (by omega) (by omega)]; simp
      have hgo : ∀ W, deflate_writer_tokens.l1 K ⟨W, ⟨ll, codesL ll⟩, ⟨dl, codesL dl⟩⟩ l k ((B ++ tbits ll dl t).length : Int) (bytB (B ++ tbits ll dl t)) ((D ++ [t]).length : Int) = .ok (((B ++ blkB ll dl (t :: T)).length : Int), bytB (B ++ blkB ll dl (t :: T))) := by
        intro W
        have htl := tbits_len C ht.1 ht.2.1 ht.2.2
        rw [ih (D ++ [t]) T (B ++ tbits ll dl t) (by rw [← h1]; simp) (fun u hu => h2 u (by simp [hu])) (by omega) (bit01_app hB (tbits_01 _ _ _)) (by rw [List.length_append]; omega) W]
        simp [blkB]
      rw [if_pos (by omega), inb_nat (by omega), chk_true, hrd, cond_beq, hw]
      rcases tok_cases ht.1 ht.2.1 ht.2.2 with ⟨e1, _, c, hc, e2⟩ | ⟨e1, n, d, n1, n2, d1, d2, e2, e3⟩
      · rw [if_pos e1, e2, wri64_id (by omega) (by omega), ← sym1]
        dsimp only
        rw [wSym K (by omega) _ _ _ ll C.chkL rfl c (by omega) B hB (by omega), Res.bind_ok]
        have : tbits ll dl t = sb ll c := by unfold tbits; rw [if_pos e1, e2, Int.toNat_natCast]
        rw [this] at hgo
        exact hgo W
      · have L := lsym_facts n1 n2
        have Dd := dsym_facts d1 d2
        have hLhi := L.hi; have hDhi := Dd.hi; have hLs := L.small; have hDs := Dd.small
        obtain ⟨s, e, Ls, hp⟩ := progLength K n n1 n2 (by omega)
        obtain ⟨s', e', Ds, hp'⟩ := progDistance K d d1 d2 (by omega)
        have q1 : lsym n = s := Ls.eq
        have q2 : dsym d = s' := Ds.eq
        have q3 : e = n - (lenOf (lsym n)).1 := by rw [q1]; have := Ls.sum; omega
        have q4 : e' = d - (dstOf (dsym d)).1 := by rw [q2]; have := Ds.sum; omega
        rw [if_neg e1, e2, e3, hp, Res.bind_ok]
        dsimp only
        unfold deflate_writer_part_1279.m deflate_writer_part_7ef6.m
        rw [← sym1, ← sym2]
        dsimp only
        have b1 := sb_len (sCheck_ok C.chkL) (s := s) (by omega)
        have b2 := sb_len (sCheck_ok C.chkD) (s := s') (by omega)
        rw [wSym K (by omega) _ _ _ ll C.chkL rfl s (by omega) B hB (by omega), Res.bind_ok]
        dsimp only
        rw [wPut K _ (bit01_app hB (sb_01 _ _)) _ e (by have := Ls.small; omega) Ls.bits (by have := Ls.small; rw [List.length_append]; omega) (by omega), Res.bind_ok, Res.bind_ok]
        dsimp only
        rw [hp', Res.bind_ok]
        dsimp only
        rw [wSym K (by omega) _ _ _ dl C.chkD rfl s' (by omega) _ (bit01_app (bit01_app hB (sb_01 _ _)) (bitsOf_01 _ _)) (by have := Ls.small; simp only [List.length_append, bitsOf_len]; omega), Res.bind_ok]
        dsimp only
        rw [wPut K _ (bit01_app (bit01_app (bit01_app hB (sb_01 _ _)) (bitsOf_01 _ _)) (sb_01 _ _)) _ e' (by have := Ds.small; omega) Ds.bits (by have := Ls.small; have := Ds.small; simp only [List.length_append, bitsOf_len]; omega) (by omega), Res.bind_ok, Res.bind_ok]
        dsimp only
        have : tbits ll dl t = sb ll s ++ bitsOf (lenOf s).2 e ++ (sb dl s' ++ bitsOf (dstOf s').2 e') := by
          unfold tbits; rw [if_neg e1, e2, e3, Int.toNat_natCast, Int.toNat_natCast, q3, q4, q1, q2]
        rw [this] at hgo
        simp only [← List.append_assoc] at hgo
        exact hgo W
end Go.Pu

/- Blocks of a text as it is: both writers. -/
set_option maxRecDepth 100000
namespace Go.Pu
open Go Go.Sl Go.Mo

/-- A block's head. -/
def hdS (last n : Nat) : List UInt8 := [UInt8.ofNat last, UInt8.ofNat (n % 256), UInt8.ofNat (n / 256), UInt8.ofNat (255 - n % 256), UInt8.ofNat (255 - n / 256)]
/-- The blocks of a text. -/
def sSt : Nat → List UInt8 → List UInt8
  | 0, _ => []
  | k + 1, s => if s.length ≤ 65535 then hdS 1 s.length ++ s else hdS 0 65535 ++ s.take 65535 ++ sSt k (s.drop 65535)

theorem live09_1 (m : Nat) : deflate_Fixed.m (m + 1000) [⟨97, 0, 0⟩] = .ok ([75, 4, 0], 0) := by kernel_rfl
theorem live09_2 (m : Nat) : deflate_Dynamic.m (m + 1000) [⟨0, 1, 0⟩] = .ok ([], 1) := by kernel_rfl
theorem live09_3 (m : Nat) : deflate_Deflate.m (m + 1000) [] = .ok [3, 0] := by kernel_rfl
theorem live09 (K : Nat) (hK : 1000 ≤ K) : mortiselaw09_live.m K = .ok true := by
  obtain ⟨m, rfl⟩ : ∃ m, K = m + 1000 := ⟨K - 1000, by omega⟩
  unfold mortiselaw09_live.m
  rw [live09_1, live09_2, live09_3, show deflate_Stored.m (m + 1000) [] = .ok [1, 0, 0, 255, 255] from by kernel_rfl]
  rfl
end Go.Pu

/- DeflateFixed: the block of any tokens by the fixed codes. -/
set_option maxRecDepth 100000
namespace Go.Pu
open Go Go.Sl Go.Mo

theorem fixC : Codes fixL fixD := ⟨fixL_ok, fixD_ok, by decide, by decide⟩
theorem fixedCodes0 (m : Nat) : deflate_fixedCodes.m (m + 300) = deflate_fixedCodes.j4 (m + 300) fixL fixD := by kernel_rfl
theorem progCoded (K : Nat) (l : List Int) (hK : 320 < K) (h : sCheck l = 0) : deflate_coded.m K l = .ok (codesL l) := by
  unfold deflate_coded.m
  rw [progCodes K l hK, if_pos h]; rfl
theorem wFixedCodes (K : Nat) (hK : 1000 < K) : deflate_fixedCodes.m K = .ok (fixL, codesL fixL, fixD, codesL fixD) := by
  obtain ⟨m, rfl⟩ : ∃ m, K = m + 300 := ⟨K - 300, by omega⟩
  rw [fixedCodes0]
  unfold deflate_fixedCodes.j4
  rw [progCoded _ _ (by omega) fixL_ok, Res.bind_ok, progCoded _ _ (by omega) fixD_ok]; rfl

/-! ## Which tokens may be -/
theorem moreLoop (K : Nat) (told : Nat) (ht : told ≤ 2) : ∀ (j n k : Nat), n < j → n < 1048576 → k + n < 2097152 → ∃ r : Nat, r ≤ k + n ∧ match_more.l1 K (told : Int) j (n : Int) (k : Int) = .ok (r : Int) := by
  intro j
  induction j with
  | zero => intro n k h; omega
  | succ j ih =>
    intro n k h1 h2 h3
    have hpt : 2 ^ told ≤ 2 ^ 2 := Nat.pow_le_pow_right (by decide) ht
    have hpt1 : 1 ≤ 2 ^ told := Nat.one_le_two_pow
    have e2 : ishl .i64 2 (told : Int) = ((2 * 2 ^ told : Nat) : Int) := by
      have := ishl_i64 (a := 2) (n := told) (by omega) (by omega)
      rw [show ((2 : Nat) : Int) = 2 from rfl] at this
      rw [this]
    rw [match_more.l1, dec_nn (by omega), chk_true, e2, cond_dec]
    by_cases hc : 2 * 2 ^ told ≤ n
    · have e3 : ishr .i64 (n : Int) 1 = ((n / 2 : Nat) : Int) := by
        have := ishr_nat (k := .i64) (a := n) (n := 1) (by decide)
        rw [show ((1 : Nat) : Int) = 1 from rfl] at this
        rw [this]
      rw [if_pos (by omega), e3, lt_eq, lt_eq, show w64 ((k : Int) + 1) = ((k + 1 : Nat) : Int) from by rw [w64_id (by omega) (by omega)]; rfl]
      obtain ⟨r, h4, h5⟩ := ih (n / 2) (k + 1) (by omega) (by omega) (by omega)
      exact ⟨r, by omega, h5⟩
    · rw [if_neg (by omega)]
      exact ⟨k, by omega, rfl⟩
theorem progMore (K : Nat) (n told : Nat) (ht : told ≤ 2) (hn : n < 1048576) (hK : n < K) : ∃ r : Nat, r ≤ n ∧ match_more.m K (n : Int) (told : Int) = .ok (r : Int) := by
  obtain ⟨r, h1, h2⟩ := moreLoop K told ht K n 0 hK hn (by omega)
  exact ⟨r, by omega, h2⟩
theorem progLengthBits (K : Nat) (n : Nat) (h1 : 3 ≤ n) (h2 : n ≤ 258) (hK : 300 < K) : ∃ r : Nat, r ≤ 300 ∧ match_lengthBits.m K (n : Int) = .ok (r : Int) := by
  unfold match_lengthBits.m
  rw [lt_eq, cond_beq]
  by_cases h : (n : Int) = 258
  · rw [if_pos h]; exact ⟨8, by omega, rfl⟩
  · rw [if_neg h, lt_eq, cond_dec, show w64 ((n : Int) - 3) = ((n - 3 : Nat) : Int) from by rw [w64_id (by omega) (by omega)]; omega]
    obtain ⟨r, h3, h4⟩ := progMore K (n - 3) 2 (by omega) (by omega) (by omega)
    rw [show ((2 : Nat) : Int) = 2 from rfl] at h4
    rw [h4]
    split
    · exact ⟨8 + r, by omega, by rw [Res.bind_ok, lt_eq, w64_id (by omega) (by omega)]; rfl⟩
    · exact ⟨7 + r, by omega, by rw [Res.bind_ok, lt_eq, w64_id (by omega) (by omega)]; rfl⟩
theorem costLoop (K : Nat) (hK : 40000 ≤ K) (l : List Tok) (hl : l.length < 1000000000) : ∀ (k : Nat) (D T : List Tok) (n : Nat), D ++ T = l → T.length < k → n ≤ 7 + 40000 * D.length →
    ∃ c : Int, match_Cost.l1 K l k (n : Int) (D.length : Int) = .ok (c, if T.all tokB = true then 0 else 1) := by
  intro k
  induction k with
  | zero => intro D T n _ h; omega
  | succ k ih =>
    intro D T n h1 h2 h3
    have hlen : D.length + T.length = l.length := by rw [← h1]; simp
    rw [match_Cost.l1, cond_dec]
    cases T with
    | nil => rw [if_neg (by simp only [List.length_nil] at hlen; omega)]; exact ⟨_, rfl⟩
    | cons t T =>
      simp only [List.length_cons] at h2 hlen
      have hrd : rd l (D.length : Int) = t := by rw [← h1]; exact rd_at _ _ _ rfl
      have hw : w64 ((D.length : Int) + 1) = ((D ++ [t]).length : Int) := by rw [w64_id (by omega) (by omega)]; simp
      rw [if_pos (by omega), inb_nat (by omega), chk_true, hrd, show (T_api_Token.mk t.Lit_ t.Len_ t.Dist_) = t from rfl, progTok, Res.bind_ok, lt_eq, hw, List.all_cons]
      have go : ∀ m : Nat, m ≤ n + 40000 → ∃ c : Int, match_Cost.l1 K l k (m : Int) ((D ++ [t]).length : Int) = .ok (c, if T.all tokB = true then 0 else 1) := fun m hm =>
        ih (D ++ [t]) T m (by rw [← h1]; simp) (by omega) (by simp only [List.length_append, List.length_cons, List.length_nil]; omega)
      cases hb : tokB t with
      | false => exact ⟨0, by simp⟩
      | true =>
        rw [Bool.not_true, cond_false, Bool.true_and]
        have g8 : w64 ((n : Int) + 8) = ((n + 8 : Nat) : Int) := by rw [w64_id (by omega) (by omega)]; rfl
        have g9 : w64 ((n : Int) + 9) = ((n + 9 : Nat) : Int) := by rw [w64_id (by omega) (by omega)]; rfl
        rw [lt_eq, lt_eq, lt_eq, lt_eq, g8, g9]
        by_cases hd : t.Dist_ = 0
        · have hd' : (t.Dist_ == 0) = true := by simpa using hd
          rw [hd', Bool.true_and, cond_true]
          cases decide (t.Lit_ < 144) with
          | true => exact go (n + 8) (by omega)
          | false => exact go (n + 9) (by omega)
        · have hd' : (t.Dist_ == 0) = false := by simpa using hd
          rw [hd', Bool.false_and, cond_false, cond_false]
          unfold tokB at hb
          rw [if_neg hd, decide_eq_true_eq] at hb
          obtain ⟨a, ha⟩ : ∃ a : Nat, t.Len_ = (a : Int) := ⟨t.Len_.toNat, by omega⟩
          obtain ⟨d, hd2⟩ : ∃ d : Nat, t.Dist_ = (d : Int) := ⟨t.Dist_.toNat, by omega⟩
          obtain ⟨r1, p1, p2⟩ := progLengthBits K a (by omega) (by omega) (by omega)
          obtain ⟨r2, p3, p4⟩ := progMore K (d - 1) 1 (by omega) (by omega) (by omega)
          rw [show ((1 : Nat) : Int) = 1 from rfl] at p4
          rw [ha, p2, Res.bind_ok, hd2, show w64 ((d : Int) - 1) = ((d - 1 : Nat) : Int) from by rw [w64_id (by omega) (by omega)]; omega, p4, Res.bind_ok, lt_eq,
            show w64 ((n : Int) + w64 (w64 ((r1 : Int) + 5) + (r2 : Int))) = ((n + (r1 + 5 + r2) : Nat) : Int) from by
              rw [w64_id (x := (r1 : Int) + 5) (by omega) (by omega), w64_id (x := (r1 : Int) + 5 + _) (by omega) (by omega), w64_id (by omega) (by omega)]; omega]
          exact go _ (by omega)
theorem progFine (K : Nat) (hK : 40000 ≤ K) (l : List Tok) (hl : l.length < 1000000000) (hlK : l.length < K) : deflate_fine.m K l = .ok (l.all tokB) := by
  unfold deflate_fine.m
  obtain ⟨c, h⟩ := costLoop K hK l hl K [] l 7 rfl hlK (by simp)
  rw [show ((7 : Nat) : Int) = 7 from rfl, show (([] : List Tok).length : Int) = 0 from rfl] at h
  unfold match_Cost.m
  rw [h, Res.bind_ok]
  dsimp only
  rw [lt_eq]
  cases l.all tokB <;> rfl

/-! ## The fixed block -/
def fixB (l : List Tok) : List Int := bitsOf 3 3 ++ blkB fixL fixD l
def litB (l : List Tok) : Prop := ∀ t ∈ l, 0 ≤ t.Lit_ ∧ t.Lit_ < 256
theorem goodT_of {l : List Tok} (h : litB l) (h2 : l.all tokB = true) : goodT l := fun t ht => ⟨List.all_eq_true.1 h2 t ht, h t ht⟩
theorem wString (K : Nat) (W : T_deflate_writer) (B : List Int) (h : W.Writer_.bytes_ = bytB B) : bits_Writer_String_deflate_writer.m K W = .ok (packB B) := by
  unfold bits_Writer_String_deflate_writer.m
  rw [h, bytB_pack, lt_eq]
theorem progFixed09 (K : Nat) (hK : 40000 ≤ K) (l : List Tok) (hl : l.length < 1000000000) (hlK : l.length < K) (hb : litB l) : deflate_Fixed.m K l = if l.all tokB = true then .ok (packB (fixB l), 0) else .ok ([], 1) := by
  unfold deflate_Fixed.m
  rw [progFine K hK l hl hlK, Res.bind_ok]
  cases h : l.all tokB with
  | false => rfl
  | true =>
    have hg := goodT_of hb h
    have h3 := wPut K [] (fun b hb => by cases hb) 3 3 (by decide) (by decide) (by decide) (by omega) ⟨fixL, codesL fixL⟩ ⟨fixD, codesL fixD⟩
    rw [show bytB [] = [] from rfl, show ((3 : Nat) : Int) = 3 from rfl, show (([] : List Int).length : Int) = 0 from rfl] at h3
    rw [Bool.not_true, cond_false, wFixedCodes K (by omega), Res.bind_ok]
    dsimp only
    rw [h3, Res.bind_ok]
    dsimp only
    unfold deflate_writer_tokens.m
    have ht := wTokens K hK fixL fixD fixC l hl K [] l (bitsOf 3 3) rfl hg hlK (bitsOf_01 _ _) (by rw [bitsOf_len]; omega) ⟨⟨((bitsOf 3 3).length : Int)⟩, bytB (bitsOf 3 3)⟩
    rw [show (([] : List Tok).length : Int) = 0 from rfl] at ht
    rw [List.nil_append, ht, Res.bind_ok]
    dsimp only
    rw [wString K _ (bitsOf 3 3 ++ blkB fixL fixD l) rfl]
    rfl
/-- The document's writer of a symbol. -/
theorem rSymLoop (K : Nat) (hK : 32 < K) (l : List Int) (s : Nat) (hs : s < l.length) (hcod : cod l s < 1073741824) : ∀ (k n : Nat) (B : List Int), n < k → n ≤ 15 → B.length + n < 50000000000 →
    mortiseref09_put.l1 K (codesL l) (s : Int) k B ((n : Int) - 1) = .ok (B ++ cb n (cod l s)) := by
  intro k
  induction k with
  | zero => intro n B h; omega
  | succ k ih =>
    intro n B hk hn hB
    rw [mortiseref09_put.l1, cond_dec]
    cases n with
    | zero => rw [if_neg (by omega)]; simp [cb]
    | succ n =>
      rw [if_pos (by omega), codesL_len, inb_nat hs, chk_true, show (((n + 1 : Nat) : Int) - 1) = (n : Int) from by omega, wru64_id (by omega) (by omega), dec_nn (by omega), chk_true, codesL_rd hs,
        wru32_id (by omega) (by omega), ishr_nat (by show n ≤ 32; omega)]
      have e1 : irem ((cod l s / 2 ^ n : Nat) : Int) 2 = ((cod l s / 2 ^ n % 2 : Nat) : Int) := by
        have := irem_nat (a := cod l s / 2 ^ n) (b := 2)
        rwa [show ((2 : Nat) : Int) = 2 from rfl] at this
      have e2 := putW K 1 (cod l s / 2 ^ n % 2) B (by omega) (by omega) (by omega) hK
      rw [show ((1 : Nat) : Int) = 1 from rfl] at e2
      rw [e1, e2, Res.bind_ok]
      dsimp only
      rw [w64_id (by omega) (by omega), lt_eq, ih n _ (by omega) (by omega) (by rw [List.length_append, bitsOf_len]; omega)]
      have e3 : bitsOf 1 (cod l s / 2 ^ n % 2) = [((cod l s / 2 ^ n % 2 : Nat) : Int)] := by simp [bitsOf]
      rw [e3]
      simp [cb]
theorem rSym (K : Nat) (hK : 32 < K) (l : List Int) (h : sCheck l = 0) (s : Nat) (hs : s < l.length) (B : List Int) (hBl : B.length < 40000000000) :
    mortiseref09_put.m K ⟨B⟩ l (codesL l) (s : Int) = .ok (B ++ sb l s) := by
  have hok := sCheck_ok h
  have hx := hok.2 l[s] (List.getElem_mem hs)
  obtain ⟨n, hn⟩ : ∃ n : Nat, l[s] = (n : Int) := ⟨l[s].toNat, by have := hx.1; omega⟩
  have hn15 : n ≤ 15 := by have := hx.2; omega
  unfold mortiseref09_put.m
  rw [inb_nat hs, chk_true, ← getD_rd hs, getD_eq hs, hn, w64_id (by omega) (by omega), lt_eq]
  have := rSymLoop K hK l s hs (codLt h hs) K n B (by omega) hn15 (by omega)
  rw [this]
  unfold sb
  rw [getD_eq hs, hn, Int.toNat_natCast]
theorem refFixedLoop (K : Nat) (hK : 40000 ≤ K) (l : List Tok) (hl : l.length < 100000000) (hlb : litB l) : ∀ (k : Nat) (D T : List Tok) (B : List Int), D ++ T = l → T.length < k → bit01 B → B.length + 48 * T.length + 15 < 8000000000 → B.length + 48 * T.length + 15 < K →
    mortiseref09_Fixed.l1 K l fixL fixD (codesL fixL) (codesL fixD) k B (D.length : Int) = if T.all tokB = true then .ok (packB (B ++ blkB fixL fixD T), 0) else .ok ([], 1) := by
  intro k
  induction k with
  | zero => intro D T B _ h; omega
  | succ k ih =>
    intro D T B h1 h3 hB hBl hBK
    have hlen : D.length + T.length = l.length := by rw [← h1]; simp
    have hlL := fixC.lenL; have hlD := fixC.lenD
    rw [mortiseref09_Fixed.l1, cond_dec]
    cases T with
    | nil =>
      rw [if_neg (by simp only [List.length_nil] at hlen; omega)]
      unfold mortiseref09_Fixed.j2
      have hs := rSym K (by omega) fixL fixL_ok 256 (by omega) B (by omega)
      rw [show ((256 : Nat) : Int) = 256 from rfl] at hs
      have hsl := sb_len (sCheck_ok fixL_ok) (s := 256) (by omega)
      rw [hs, Res.bind_ok, stringW K _ (bit01_app hB (sb_01 _ _)) (by rw [List.length_append]; omega) (by rw [List.length_append]; simp only [List.length_nil] at hBK; omega), Res.bind_ok]
      simp [blkB]
    | cons t T =>
      simp only [List.length_cons] at h3 hlen hBl hBK
      have hrd : rd l (D.length : Int) = t := by rw [← h1]; exact rd_at _ _ _ rfl
      have hw : w64 ((D.length : Int) + 1) = ((D ++ [t]).length : Int) := by rw [w64_id (by omega) (by omega)]; simp
      have htl : 0 ≤ t.Lit_ ∧ t.Lit_ < 256 := hlb t (by rw [← h1]; simp)
      rw [if_pos (by omega), inb_nat (by omega), chk_true, hrd, show (T_api_Token.mk t.Lit_ t.Len_ t.Dist_) = t from rfl, refTok, Res.bind_ok, List.all_cons, hw]
      cases hb : tokB t with
      | false => rfl
      | true =>
        have hgo : mortiseref09_Fixed.l1 K l fixL fixD (codesL fixL) (codesL fixD) k (B ++ tbits fixL fixD t) ((D ++ [t]).length : Int) = if T.all tokB = true then .ok (packB (B ++ blkB fixL fixD (t :: T)), 0) else .ok ([], 1) := by
          have htb := tbits_len fixC hb htl.1 htl.2
          rw [ih (D ++ [t]) T (B ++ tbits fixL fixD t) (by rw [← h1]; simp) (by omega) (bit01_app hB (tbits_01 _ _ _)) (by rw [List.length_append]; omega) (by rw [List.length_append]; omega)]
          simp [blkB]
        rw [Bool.not_true, cond_false, cond_beq, Bool.true_and]
        rcases tok_cases hb htl.1 htl.2 with ⟨e1, _, c, hc, e2⟩ | ⟨e1, n, d, n1, n2, d1, d2, e2, e3⟩
        · rw [if_pos e1, e2, wri64_id (by omega) (by omega), rSym K (by omega) fixL fixL_ok c (by omega) B (by omega), Res.bind_ok, lt_eq]
          have : tbits fixL fixD t = sb fixL c := by unfold tbits; rw [if_pos e1, e2, Int.toNat_natCast]
          rw [this] at hgo
          exact hgo
        · have L := lsym_facts n1 n2
          have Dd := dsym_facts d1 d2
          have hLhi := L.hi; have hLlo := L.lo; have hDhi := Dd.hi; have hLs := L.small; have hDs := Dd.small; have hLsum := L.sum; have hDsum := Dd.sum
          have hLb := L.bits; have hDb := Dd.bits
          have b1 := sb_len (sCheck_ok fixL_ok) (s := lsym n) (by omega)
          have b2 := sb_len (sCheck_ok fixD_ok) (s := dsym d) (by omega)
          have hr1 := refLength K (lsym n - 257) (by omega)
          rw [show 257 + (lsym n - 257) = lsym n from by omega] at hr1
          have hr2 := refDistance K (dsym d) (by omega)
          rw [if_neg e1, e2, e3, refLsym K n (by omega), Res.bind_ok, refDsym K d (by omega), Res.bind_ok, hr1, Res.bind_ok]
          dsimp only
          rw [hr2, Res.bind_ok]
          dsimp only
          rw [rSym K (by omega) fixL fixL_ok _ (by omega) B (by omega), Res.bind_ok,
            show wr .u32 (w64 ((n : Int) - ((lenOf (lsym n)).1 : Int))) = ((n - (lenOf (lsym n)).1 : Nat) : Int) from by rw [w64_id (by omega) (by omega), wru32_id (by omega) (by omega)]; omega,
            putW K _ _ _ (by omega) hLb (by rw [List.length_append]; omega) (by omega), Res.bind_ok]
          dsimp only
          rw [rSym K (by omega) fixD fixD_ok _ (by omega) _ (by simp only [List.length_append, bitsOf_len]; omega), Res.bind_ok,
            show wr .u32 (w64 ((d : Int) - ((dstOf (dsym d)).1 : Int))) = ((d - (dstOf (dsym d)).1 : Nat) : Int) from by rw [w64_id (by omega) (by omega), wru32_id (by omega) (by omega)]; omega,
            putW K _ _ _ (by omega) hDb (by simp only [List.length_append, bitsOf_len]; omega) (by omega), Res.bind_ok]
          dsimp only
          rw [lt_eq]
          have : tbits fixL fixD t = sb fixL (lsym n) ++ bitsOf (lenOf (lsym n)).2 (n - (lenOf (lsym n)).1) ++ (sb fixD (dsym d) ++ bitsOf (dstOf (dsym d)).2 (d - (dstOf (dsym d)).1)) := by
            unfold tbits; rw [if_neg e1, e2, e3, Int.toNat_natCast, Int.toNat_natCast]
          rw [this] at hgo
          simp only [← List.append_assoc] at hgo
          exact hgo
theorem refFixed09 (K : Nat) (hK : 40000 ≤ K) (l : List Tok) (hl : l.length < 100000000) (hlK : 48 * l.length + 18 < K) (hb : litB l) : mortiseref09_Fixed.m K l = if l.all tokB = true then .ok (packB (fixB l), 0) else .ok ([], 1) := by
  unfold mortiseref09_Fixed.m
  rw [refFixed K (by omega), Res.bind_ok]
  dsimp only
  have h3 := putW K 3 3 [] (by decide) (by decide) (by decide) (by omega)
  rw [show ((3 : Nat) : Int) = 3 from rfl] at h3
  rw [refCodes K _ (by omega), if_pos fixL_ok, Res.bind_ok]
  dsimp only
  rw [refCodes K _ (by omega), if_pos fixD_ok, Res.bind_ok]
  dsimp only
  rw [h3, Res.bind_ok]
  dsimp only
  have := refFixedLoop K hK l hl hb K [] l (bitsOf 3 3) rfl (by omega) (bitsOf_01 _ _) (by rw [bitsOf_len]; omega) (by rw [bitsOf_len]; omega)
  rw [show (([] : List Tok).length : Int) = 0 from rfl] at this
  rw [List.nil_append, this]
  rfl
theorem pureFixed0 (K : Nat) (l : List Tok) (hK : 60000 ≤ K) (hb : litB l) : mortiselaw09_DeflateFixed.m K l = .ok true := by
  unfold mortiselaw09_DeflateFixed.m
  rw [live09 K (by omega), cond_dec]
  by_cases h : (l.length : Int) > 1000
  · rw [if_pos h]; rfl
  · rw [if_neg h, progFixed09 K (by omega) l (by omega) (by omega) hb, refFixed09 K (by omega) l (by omega) (by omega) hb]
    cases l.all tokB with
    | true =>
      rw [if_pos rfl, Res.bind_ok]
      dsimp only
      rw [Res.bind_ok]
      dsimp only
      rw [beq_self_eq_true, Bool.true_and, beq_self_eq_true, cond_true, Res.bind_ok]
      rfl
    | false => rfl
end Go.Pu

/- Fixed codes of any tokens: the facts that the row gives. -/
namespace Go.Pu
open Go Go.Sl Go.Mo
theorem u8_bounds {a : Int} (h : (Lit.int .u8 a).wf = true) : 0 ≤ a ∧ a < 256 := by
  simp [Lit.wf, Go.IntKind.min, Go.IntKind.max, Go.IntKind.signed, Go.IntKind.bits] at h
  omega
theorem pure_DeflateFixed (l : List T_api_Token) (hl : ∀ x ∈ l, (Lit.int .u8 x.Lit_).wf = true ∧ (Lit.int .i64 x.Len_).wf = true ∧ (Lit.int .i64 x.Dist_).wf = true) (_hz : l.length * 24 ≤ 140737488351232) : mortiselaw09_DeflateFixed.m 60000 l = .ok true :=
  pureFixed0 60000 l (by omega) (fun x hx => u8_bounds (hl x hx).1)
end Go.Pu

