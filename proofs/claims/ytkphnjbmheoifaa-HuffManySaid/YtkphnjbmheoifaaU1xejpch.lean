/- Plain facts on the models: what they compute, and what holds of them; conditions: what each theorem states. -/
import Derived.Test.YtkphnjbmheoifaaMjellj
set_option linter.unusedVariables false
set_option linter.unusedSimpArgs false
/- Plain facts on wrapped numbers, and bits of a text. -/
namespace Go.Pu
open Go Go.Sl

theorem w64_id {x : Int} (h0 : -9223372036854775808 ≤ x) (h1 : x < 9223372036854775808) : w64 x = x := by
  show (if (true && decide (x % 18446744073709551616 ≥ 9223372036854775808)) = true then x % 18446744073709551616 - 18446744073709551616 else x % 18446744073709551616) = x
  split <;> rename_i h <;> simp at h <;> omega
theorem wru64 (x : Int) : wr .u64 x = x % 18446744073709551616 := by
  simp [wr, IntKind.wrap, IntKind.bits, IntKind.signed]
theorem wru64_id {x : Int} (h0 : 0 ≤ x) (h1 : x < 18446744073709551616) : wr .u64 x = x := by rw [wru64]; omega
theorem wri64_id {x : Int} (h0 : -9223372036854775808 ≤ x) (h1 : x < 9223372036854775808) : wr .i64 x = x := w64_id h0 h1

theorem ishr_nat {k : IntKind} {a n : Nat} (hn : n ≤ k.bits) : ishr k (a : Int) (n : Int) = ((a / 2 ^ n : Nat) : Int) := by
  unfold ishr
  rw [Int.toNat_natCast, Nat.min_eq_left hn, Int.fdiv_eq_ediv_of_nonneg _ (Int.pow_nonneg (by decide))]
  simp
theorem ishl_i64 {a n : Nat} (hn : n ≤ 64) (h : a * 2 ^ n < 9223372036854775808) : ishl .i64 (a : Int) (n : Int) = ((a * 2 ^ n : Nat) : Int) := by
  unfold ishl
  rw [Int.toNat_natCast, show min n IntKind.i64.bits = n from Nat.min_eq_left hn]
  have e : (a : Int) * 2 ^ n = ((a * 2 ^ n : Nat) : Int) := by push_cast; rfl
  rw [e]
  exact w64_id (by omega) (by omega)
end Go.Pu

/- Bits of a text: the document's reader. -/
namespace Go.Pu
open Go Go.Sl Go.Mo

/-- Bit number i of a text. -/
def bitB (t : List UInt8) (i : Nat) : Bool := (t.getD (i / 8) 0).toNat.testBit (i % 8)
/-- n bits from bit p on, the lowest first. -/
def num (t : List UInt8) (p : Nat) : Nat → Nat
  | 0 => 0
  | n + 1 => num t p n + (bitB t (p + n)).toNat * 2 ^ n

/-- The bits, or why not. -/
def sBits (t : List UInt8) (p n : Nat) : Except Int (Nat × Nat) := if p + n ≤ 8 * t.length then .ok (num t p n, p + n) else .error 2

end Go.Pu

/- Bits of a text: the program's reader. -/
namespace Go.Pu
open Go Go.Sl Go.Mo

end Go.Pu

/- Lengths of codes: counted and checked. -/
namespace Go.Pu
open Go Go.Sl Go.Mo

def inR (x : Int) : Prop := 0 ≤ x ∧ x ≤ 15
instance (x : Int) : Decidable (inR x) := inferInstanceAs (Decidable (_ ∧ _))
def okL (l : List Int) : Prop := l.length ≤ 320 ∧ ∀ x ∈ l, inR x
instance (l : List Int) : Decidable (okL l) := inferInstanceAs (Decidable (_ ∧ _))
/-- How many have each length. -/
def cs (l : List Int) : List Int := (List.range 16).map fun (j : Nat) => ((l.count (j : Int) : Nat) : Int)
def cs0 (l : List Int) : List Int := (List.range 16).map fun (j : Nat) => if j = 0 then 0 else ((l.count (j : Int) : Nat) : Int)
theorem cs_len (l : List Int) : (cs l).length = 16 := by simp [cs]
theorem cs0_len (l : List Int) : (cs0 l).length = 16 := by simp [cs0]
theorem rd_nat {α : Type} [Inhabited α] {l : List α} {i : Nat} (h : i < l.length) : rd l (i : Int) = l[i] := by
  simp [rd, List.getD, List.getElem?_eq_getElem h]
theorem inb_nat {i n : Nat} (h : i < n) : inb (i : Int) n = true := by simp only [inb, decide_eq_true_eq]; omega
theorem take_succ' {α : Type} {l : List α} {i : Nat} (h : i < l.length) : l.take (i + 1) = l.take i ++ [l[i]] := List.take_succ_eq_append_getElem h
theorem drop_cons' {α : Type} {l : List α} {i : Nat} (h : i < l.length) : l.drop i = l[i] :: l.drop (i + 1) := List.drop_eq_getElem_cons h

theorem cs_step {l : List Int} {i : Nat} (h : i < l.length) (hi : inR l[i]) (hl : l.length ≤ 320) :
    (cs (l.take i)).set (Int.toNat l[i]) (w64 ((rd (cs (l.take i)) l[i]) + 1)) = cs (l.take (i + 1)) := by
  obtain ⟨h0, h1⟩ := hi
  obtain ⟨x, hx⟩ := Int.eq_ofNat_of_zero_le h0
  have hx16 : x < 16 := by omega
  have hrd : rd (cs (l.take i)) l[i] = (((l.take i).count (x : Int) : Nat) : Int) := by
    rw [hx, rd_nat (by rw [cs_len]; exact hx16)]; simp [cs]
  have hc : (l.take i).count (x : Int) ≤ 320 := Nat.le_trans List.count_le_length (by simp; omega)
  rw [hrd, w64_id (by omega) (by omega), hx]
  apply List.ext_getElem
  · simp [cs]
  · intro j h1 h2
    simp only [List.length_set, cs_len] at h1
    rw [List.getElem_set]
    simp only [Int.toNat_natCast, take_succ' h]
    by_cases hj : x = j
    · subst hj
      simp [cs, List.count_append, hx]
    · have : ¬ ((x : Int) = (j : Int)) := by omega
      simp [cs, List.count_append, hj, hx, List.count_cons, this]

theorem count_l1 (K : Nat) (l : List Int) (hl : l.length ≤ 320) : ∀ j k i, i + j = l.length → j < k → (∀ x ∈ l.drop i, inR x) →
    huff_count.l1 K l k (cs (l.take i)) (i : Int) = huff_count.j2 K (cs l)
  | _, 0, _, _, h, _ => by omega
  | 0, k + 1, i, hi, _, _ => by
    rw [huff_count.l1]
    have h1 : decide ((i : Int) < (l.length : Int)) = false := by simp only [decide_eq_false_iff_not]; omega
    rw [h1, cond_false, List.take_of_length_le (by omega)]
  | j + 1, k + 1, i, hi, hk, hr => by
    rw [huff_count.l1]
    have hil : i < l.length := by omega
    have h1 : decide ((i : Int) < (l.length : Int)) = true := by simp only [decide_eq_true_eq]; omega
    rw [h1, cond_true, inb_nat hil]
    simp only [chk_true, lt_eq, rd_nat hil]
    rw [drop_cons' hil] at hr
    have hin := hr l[i] List.mem_cons_self
    have h2 : (decide (l[i] < 0) || decide (l[i] > 15)) = false := by obtain ⟨a, b⟩ := hin; simp; omega
    have h3 : inb l[i] 16 = true := by obtain ⟨a, b⟩ := hin; simp only [inb, decide_eq_true_eq]; omega
    rw [h2, cond_false, h3]
    simp only [chk_true]
    rw [cs_step hil hin hl]
    have e : w64 ((i : Int) + 1) = ((i + 1 : Nat) : Int) := by rw [w64_id (by omega) (by omega)]; push_cast; rfl
    rw [e]
    exact count_l1 K l hl j k (i + 1) (by omega) (by omega) (fun x hx => hr x (List.mem_cons_of_mem _ hx))
theorem count_bad (K : Nat) (l : List Int) (hl : l.length ≤ 320) : ∀ j k i c, i + j = l.length → j < k → c.length = 16 → (∃ x ∈ l.drop i, ¬ inR x) →
    ∃ c', huff_count.l1 K l k c (i : Int) = .ok (c', false)
  | _, 0, _, _, _, h, _, _ => by omega
  | 0, k + 1, i, c, hi, _, _, ⟨x, hx, _⟩ => by
    rw [List.drop_eq_nil_of_le (by omega)] at hx; cases hx
  | j + 1, k + 1, i, c, hi, hk, hc, ⟨x, hx, hn⟩ => by
    rw [huff_count.l1]
    have hil : i < l.length := by omega
    have h1 : decide ((i : Int) < (l.length : Int)) = true := by simp only [decide_eq_true_eq]; omega
    rw [h1, cond_true, inb_nat hil]
    simp only [chk_true, lt_eq, rd_nat hil]
    by_cases hin : inR l[i]
    · have h2 : (decide (l[i] < 0) || decide (l[i] > 15)) = false := by obtain ⟨a, b⟩ := hin; simp; omega
      have h3 : inb l[i] 16 = true := by obtain ⟨a, b⟩ := hin; simp only [inb, decide_eq_true_eq]; omega
      rw [h2, cond_false, h3]
      simp only [chk_true]
      have e : w64 ((i : Int) + 1) = ((i + 1 : Nat) : Int) := by rw [w64_id (by omega) (by omega)]; push_cast; rfl
      rw [e]
      refine count_bad K l hl j k (i + 1) _ (by omega) (by omega) (by simp [hc]) ⟨x, ?_, hn⟩
      rw [drop_cons' hil] at hx
      rcases List.mem_cons.1 hx with rfl | hx
      · exact absurd hin hn
      · exact hx
    · have h2 : (decide (l[i] < 0) || decide (l[i] > 15)) = true := by
        unfold inR at hin; simp; omega
      rw [h2, cond_true]
      exact ⟨_, rfl⟩

theorem progCount (K : Nat) (l : List Int) (hK : 320 < K) : (okL l → huff_count.m K l = .ok (cs0 l, true)) ∧ (¬ okL l → ∃ c, huff_count.m K l = .ok (c, false)) := by
  unfold huff_count.m
  have e0 : cs (l.take 0) = List.replicate 16 (0 : Int) := by simp [cs]; rfl
  constructor
  · intro ⟨h1, h2⟩
    have h3 : decide ((l.length : Int) > 320) = false := by simp only [decide_eq_false_iff_not]; omega
    rw [h3, cond_false, ← e0]
    have := count_l1 K l h1 l.length K 0 (by omega) (by omega) (by simpa using h2)
    rw [show ((0 : Nat) : Int) = 0 from rfl] at this
    rw [this, huff_count.j2]
    simp only [lt_eq]
    rfl
  · intro hn
    by_cases h1 : l.length ≤ 320
    · have h3 : decide ((l.length : Int) > 320) = false := by simp only [decide_eq_false_iff_not]; omega
      rw [h3, cond_false]
      have hb : ∃ x ∈ l.drop 0, ¬ inR x := by
        apply Classical.byContradiction
        intro hno
        refine hn ⟨h1, fun x hx => Classical.byContradiction fun hx2 => hno ⟨x, by simpa using hx, hx2⟩⟩
      obtain ⟨c, hc⟩ := count_bad K l h1 l.length K 0 (List.replicate 16 0) (by omega) (by omega) (by simp) hb
      exact ⟨c, hc⟩
    · have h3 : decide ((l.length : Int) > 320) = true := by simp only [decide_eq_true_eq]; omega
      rw [h3, cond_true]
      exact ⟨_, rfl⟩
end Go.Pu

/- Lengths of codes: checked, by the program and by the document. -/
namespace Go.Pu
open Go Go.Sl Go.Mo

def c0 (l : List Int) (n : Nat) : Nat := if n = 0 then 0 else l.count (n : Int)
/-- The sum of the parts that the codes of the lengths below i take, of 2^15. -/
def ks (l : List Int) : Nat → Nat
  | 0 => 0
  | i + 1 => ks l i + c0 l i * 2 ^ (15 - i)
def nz (l : List Int) : List Int := l.filter fun x => decide (0 < x)
def sCheck (l : List Int) : Int := if okL l then (if nz l = [] ∨ nz l = [1] ∨ ks l 16 = 32768 then 0 else 3) else 1

theorem c0_le {l : List Int} (h : l.length ≤ 320) (n : Nat) : c0 l n ≤ 320 := by
  unfold c0
  split
  · omega
  · exact Nat.le_trans List.count_le_length h
theorem ks_le {l : List Int} (h : l.length ≤ 320) : ∀ i, ks l i ≤ i * 10485760
  | 0 => by simp [ks]
  | i + 1 => by
    have h1 := ks_le h i
    have h2 : c0 l i * 2 ^ (15 - i) ≤ 320 * 2 ^ 15 := Nat.mul_le_mul (c0_le h i) (Nat.pow_le_pow_right (by decide) (by omega))
    rw [ks]; omega
theorem rd_cs0 {l : List Int} {n : Nat} (h : n < 16) : rd (cs0 l) (n : Int) = (c0 l n : Int) := by
  rw [rd_nat (by rw [cs0_len]; exact h)]
  simp only [cs0, c0, List.getElem_map, List.getElem_range]
  split <;> rfl

theorem progCheck_l1 (K : Nat) (l : List Int) (hl : l.length ≤ 320) : ∀ j k, j ≤ 16 → j < k → huff_Check.l1 K (cs0 l) k (ks l (16 - j) : Int) ((16 - j : Nat) : Int) = huff_Check.j2 K (cs0 l) (ks l 16 : Int)
  | _, 0, _, h => by omega
  | 0, k + 1, _, _ => by
    rw [huff_Check.l1]
    rfl
  | j + 1, k + 1, hj, hk => by
    rw [huff_Check.l1]
    generalize hi : 16 - (j + 1) = i
    have hil : i < 16 := by omega
    have h1 : decide ((i : Int) < 16) = true := by simp only [decide_eq_true_eq]; omega
    have h2 : decide ((0 : Int) ≤ (i : Int)) = true := decide_eq_true (Int.natCast_nonneg _)
    rw [h1, cond_true, inb_nat hil, h2]
    simp only [chk_true, lt_eq, rd_cs0 hil]
    have e1 : ishr .i64 (32768 : Int) (i : Int) = ((2 ^ (15 - i) : Nat) : Int) := by
      rw [show (32768 : Int) = ((32768 : Nat) : Int) from rfl, ishr_nat (k := .i64) (by show i ≤ 64; omega)]
      congr 1
      rw [show (32768 : Nat) = 2 ^ (15 - i) * 2 ^ i by rw [← Nat.pow_add, show 15 - i + i = 15 by omega], Nat.mul_div_cancel _ (Nat.two_pow_pos i)]
    have hb := ks_le hl i
    have hb2 := ks_le hl (i + 1)
    have hm : c0 l i * 2 ^ (15 - i) ≤ 320 * 2 ^ 15 := Nat.mul_le_mul (c0_le hl i) (Nat.pow_le_pow_right (by decide) (by omega))
    have e2 : w64 ((c0 l i : Int) * ((2 ^ (15 - i) : Nat) : Int)) = ((c0 l i * 2 ^ (15 - i) : Nat) : Int) := by
      rw [← Int.natCast_mul, w64_id (by omega) (by omega)]
    have e3 : w64 ((ks l i : Int) + ((c0 l i * 2 ^ (15 - i) : Nat) : Int)) = (ks l (i + 1) : Int) := by
      have e : (ks l i : Int) + ((c0 l i * 2 ^ (15 - i) : Nat) : Int) = (ks l (i + 1) : Int) := by rw [ks]; push_cast; rfl
      rw [e, w64_id (by omega) (by omega)]
    have e4 : w64 ((i : Int) + 1) = ((i + 1 : Nat) : Int) := by rw [w64_id (by omega) (by omega)]; push_cast; rfl
    simp only [e1, e2, e3, e4]
    have := progCheck_l1 K l hl j k (by omega) (by omega)
    rw [show 16 - j = i + 1 by omega] at this
    exact this

theorem nz_cons (x : Int) (l : List Int) : nz (x :: l) = if 0 < x then x :: nz l else nz l := by
  simp [nz, List.filter_cons]
theorem c0_cons (x : Int) (l : List Int) (n : Nat) : c0 (x :: l) n = c0 l n + (if 0 < n ∧ x = n then 1 else 0) := by
  unfold c0
  by_cases h : n = 0
  · subst h; simp
  · have : 0 < n := by omega
    simp only [h, if_false, List.count_cons, this, true_and]
    by_cases hx : x = (n : Int) <;> simp [hx]
theorem ks_cons (x : Int) (l : List Int) : ∀ i, ks (x :: l) i = ks l i + (if 0 < x ∧ x < i then 2 ^ (15 - x.toNat) else 0)
  | 0 => by simp [ks]; omega
  | i + 1 => by
    rw [ks, ks, ks_cons x l i, c0_cons]
    by_cases hx : x = (i : Int)
    · subst hx
      by_cases h0 : 0 < i
      · have h1 : (0 : Int) < (i : Int) := by omega
        have h2 : ¬ ((i : Int) < (i : Int)) := by omega
        have h3 : (i : Int) < ((i + 1 : Nat) : Int) := by omega
        simp only [h0, h1, h2, h3, and_true, and_false, if_true, if_false, Int.toNat_natCast]
        rw [Nat.add_mul, Nat.one_mul]; omega
      · have : i = 0 := by omega
        subst this; simp
    · have h1 : ¬ (0 < i ∧ x = (i : Int)) := fun h => hx h.2
      rw [if_neg h1]
      by_cases h2 : 0 < x ∧ x < (i : Int)
      · have h3 : 0 < x ∧ x < ((i + 1 : Nat) : Int) := by omega
        rw [if_pos h2, if_pos h3]; simp only [Nat.add_zero]; omega
      · have h3 : ¬ (0 < x ∧ x < ((i + 1 : Nat) : Int)) := by omega
        rw [if_neg h2, if_neg h3]; simp only [Nat.add_zero]
theorem okL_cons {x : Int} {l : List Int} (h : okL (x :: l)) : inR x ∧ okL l := ⟨h.2 x (by simp), by have := h.1; simp at this; omega, fun y hy => h.2 y (by simp [hy])⟩
theorem ks_zero : ∀ {l : List Int}, okL l → (ks l 16 = 0 ↔ nz l = [])
  | [], _ => by simp [nz]; rfl
  | x :: l, h => by
    obtain ⟨⟨hx0, hx1⟩, hl⟩ := okL_cons h
    rw [ks_cons, nz_cons]
    by_cases hx : 0 < x
    · have h2 : 0 < x ∧ x < ((16 : Nat) : Int) := by omega
      have := Nat.two_pow_pos (15 - x.toNat)
      rw [if_pos h2, if_pos hx]
      constructor
      · intro h; omega
      · intro h; cases h
    · have h2 : ¬ (0 < x ∧ x < ((16 : Nat) : Int)) := by omega
      rw [if_neg h2, if_neg hx, Nat.add_zero]
      exact ks_zero hl
theorem nz_count {l : List Int} {n : Nat} (hn : 0 < n) : (nz l).count (n : Int) = l.count (n : Int) := by
  unfold nz
  rw [List.count_filter]
  simp; omega
theorem cs0_one {l : List Int} (h : okL l) : cs0 l = [0, 1, 0, 0, 0, 0, 0, 0, 0, 0, 0, 0, 0, 0, 0, 0] ↔ nz l = [1] := by
  constructor
  · intro hc
    have hcount : ∀ n : Nat, 0 < n → n < 16 → (nz l).count (n : Int) = if n = 1 then 1 else 0 := by
      intro n h0 h1
      have h2 : rd (cs0 l) (n : Int) = (c0 l n : Int) := rd_cs0 h1
      rw [hc] at h2
      rw [nz_count h0]
      have h3 : c0 l n = l.count (n : Int) := by unfold c0; rw [if_neg (by omega)]
      rw [← h3]
      have h4 : ∀ m : Nat, m < 16 → 0 < m → rd [(0 : Int), 1, 0, 0, 0, 0, 0, 0, 0, 0, 0, 0, 0, 0, 0, 0] (m : Int) = if m = 1 then 1 else 0 := by decide
      rw [h4 n h1 h0] at h2
      by_cases hh : n = 1
      · rw [if_pos hh] at h2 ⊢; omega
      · rw [if_neg hh] at h2 ⊢; omega
    have hall : ∀ x ∈ nz l, x = 1 := by
      intro x hx
      have hx' := List.mem_filter.1 hx
      have h0 : 0 < x := by simpa using hx'.2
      have h1 := (h.2 x hx'.1).2
      obtain ⟨m, hm⟩ := Int.eq_ofNat_of_zero_le (by omega : 0 ≤ x)
      have h2 := hcount m (by omega) (by omega)
      have h3 : 0 < (nz l).count (m : Int) := List.count_pos_iff.2 (hm ▸ hx)
      split at h2 <;> omega
    have h1 := hcount 1 (by omega) (by omega)
    simp only [if_true] at h1
    have h2 : (nz l).length = 1 := by
      have : (nz l).count (1 : Int) = (nz l).length := List.count_eq_length.2 fun b hb => (hall b hb).symm
      rw [← this]; exact h1
    match hn : nz l, h2 with
    | [y], _ => rw [hall y (by rw [hn]; simp)]
  · intro hn
    have h3 : ∀ j ∈ List.range 16, (if j = 0 then (0 : Int) else ((l.count (j : Int) : Nat) : Int)) = if j = 1 then 1 else 0 := by
      intro j _
      by_cases h0 : j = 0
      · subst h0; rfl
      · rw [if_neg h0, ← nz_count (by omega), hn]
        by_cases h1 : j = 1
        · subst h1; rfl
        · simp [h1, List.count_cons]; omega
    unfold cs0
    rw [List.map_congr_left h3]
    rfl

theorem progCheck (K : Nat) (l : List Int) (hK : 320 < K) : huff_Check.m K l = .ok (sCheck l) := by
  unfold huff_Check.m sCheck
  obtain ⟨h1, h2⟩ := progCount K l hK
  by_cases h : okL l
  · rw [h1 h, if_pos h]
    simp only [Res.bind_ok, Bool.not_true, cond_false]
    have := progCheck_l1 K l h.1 16 K (by omega) (by omega)
    rw [Nat.sub_self] at this
    refine (show huff_Check.l1 K (cs0 l) K (0 : Int) (0 : Int) = _ from this).trans ?_
    unfold huff_Check.j2
    have e1 : ((ks l 16 : Int) == 0) = decide (nz l = []) := by
      rw [Bool.eq_iff_iff]; simp only [beq_iff_eq, decide_eq_true_eq]; rw [← ks_zero h]; omega
    have e2 : (cs0 l == ([0, (1 : Int), 0, 0, 0, 0, 0, 0, 0, 0, 0, 0, 0, 0, 0, 0] : List Int)) = decide (nz l = [1]) := by
      rw [Bool.eq_iff_iff]; simp only [beq_iff_eq, decide_eq_true_eq]; exact cs0_one h
    have e3 : ((ks l 16 : Int) == 32768) = decide (ks l 16 = 32768) := by
      rw [Bool.eq_iff_iff]; simp only [beq_iff_eq, decide_eq_true_eq]; omega
    rw [e1, e2, e3]
    by_cases a : nz l = [] <;> by_cases b : nz l = [1] <;> by_cases c : ks l 16 = 32768 <;> simp [a, b, c]
  · obtain ⟨c, hc⟩ := h2 h
    rw [hc, if_neg h]
    rfl
end Go.Pu

/- Lengths of codes, checked by the document; its codes. -/
namespace Go.Pu
open Go Go.Sl Go.Mo

end Go.Pu

/- The codes, as the document lays them. -/
namespace Go.Pu
open Go Go.Sl Go.Mo

/-- The first code of each length. -/
def fst (l : List Int) : Nat → Nat
  | 0 => 0
  | n + 1 => 2 * (fst l n + c0 l n)
def cod (l : List Int) (i : Nat) : Nat := if 0 < l.getD i 0 then fst l (l.getD i 0).toNat + (l.take i).count (l.getD i 0) else 0
def codesL (l : List Int) : List Int := (List.range l.length).map fun (i : Nat) => (cod l i : Int)
def outF (l : List Int) (n i : Nat) : List Int := (List.range l.length).map fun (j : Nat) =>
  if (0 < l.getD j 0 ∧ l.getD j 0 < (n : Int)) ∨ (l.getD j 0 = (n : Int) ∧ j < i) then (cod l j : Int) else 0
end Go.Pu

/- The program's table. -/
namespace Go.Pu
open Go Go.Sl Go.Mo

/-- The symbols of one length, below number i. -/
def idx (l : List Int) (n i : Nat) : List Int := ((List.range i).filter fun j => decide (l.getD j 0 = (n : Int))).map fun (j : Nat) => (j : Int)
/-- The symbols whose length is below n, ranged by lengths. -/
def symsU (l : List Int) : Nat → List Int
  | 0 => []
  | n + 1 => if n = 0 then [] else symsU l n ++ idx l n l.length
end Go.Pu

/- The symbols of a code: where each stands. -/
namespace Go.Pu
open Go Go.Sl Go.Mo

end Go.Pu

/- When a code goes on. -/
namespace Go.Pu
open Go Go.Sl Go.Mo

end Go.Pu

/- The next symbol: the program's table. -/
namespace Go.Pu
open Go Go.Sl Go.Mo

def nextGo (l : List Int) (t : List UInt8) : Nat → Nat → Nat → Nat → Except Int (Nat × Nat)
  | 0, _, _, _ => .error 3
  | k + 1, n, v, p =>
    if (symsU l (n + 1)).length < (symsU l 16).length then
      if p + 1 ≤ 8 * t.length then
        if 2 * v + (bitB t p).toNat < fst l (n + 1) + c0 l (n + 1) then .ok (((symsU l 16).getD ((symsU l (n + 1)).length + (2 * v + (bitB t p).toNat) - fst l (n + 1)) 0).toNat, p + 1)
        else nextGo l t k (n + 1) (2 * v + (bitB t p).toNat) (p + 1)
      else .error 2
    else .error 3
def sNext (l : List Int) (t : List UInt8) (p : Nat) : Except Int (Nat × Nat) := nextGo l t 16 0 0 p

end Go.Pu

/- The next symbol, as the document reads it. -/
namespace Go.Pu
open Go Go.Sl Go.Mo

/-- Number i is the symbol whose code v is, of n bits. -/
def hits (l : List Int) (n v i : Nat) : Prop := l.getD i 0 = (n : Int) ∧ 0 < n ∧ cod l i = v
/-- The code of number i begins with v, and is longer. -/
def leads (l : List Int) (n v i : Nat) : Prop := (n : Int) < l.getD i 0 ∧ cod l i / 2 ^ ((l.getD i 0).toNat - n) = v
instance (l : List Int) (n v i : Nat) : Decidable (hits l n v i) := inferInstanceAs (Decidable (_ ∧ _))
instance (l : List Int) (n v i : Nat) : Decidable (leads l n v i) := inferInstanceAs (Decidable (_ ∧ _))
end Go.Pu

/- The next symbol, as the document reads it: the outer rounds. -/
namespace Go.Pu
open Go Go.Sl Go.Mo

/-- The document's reader at the head of round n: a symbol of n bits, or on. -/
def headR (l : List Int) (t : List UInt8) (n v p : Nat) : Except Int (Nat × Nat) :=
  if 0 < n ∧ v < fst l n + c0 l n then .ok (((symsU l 16).getD ((symsU l n).length + v - fst l n) 0).toNat, p) else nextGo l t (16 - n) n v p

end Go.Pu

/- Small rules of conditions and bounds, for plain proofs. -/
namespace Go.Pu
open Go Go.Sl Go.Mo

theorem subok_of {lo hi : Int} {n : Nat} (h0 : 0 ≤ lo) (h1 : lo ≤ hi) (h2 : hi ≤ (n : Int)) : subok lo hi n = true := subok_iff.2 ⟨h0, h1, h2⟩
theorem room_of {n k : Nat} (h : n * k ≤ 140737488355328) : room n k = true := decide_eq_true h
theorem dec_nn {x : Int} (h : 0 ≤ x) : decide (0 ≤ x) = true := decide_eq_true h
section
variable {α : Type}
theorem cond_dec {p : Prop} [Decidable p] (a b : α) : cond (decide p) a b = if p then a else b := by
  by_cases h : p <;> simp [h]
theorem cond_beq {x y : Int} (a b : α) : cond (x == y) a b = if x = y then a else b := by
  by_cases h : x = y
  · rw [if_pos h, beq_iff_eq.2 h]; rfl
  · rw [if_neg h, beq_eq_false_iff_ne.2 h]; rfl
theorem cond_bne {x y : Int} (a b : α) : cond (x != y) a b = if x = y then b else a := by
  by_cases h : x = y
  · rw [if_pos h, bne_eq_false_iff_eq.2 h]; rfl
  · rw [if_neg h, bne_iff_ne.2 h]; rfl
theorem cond_not (x : Bool) (a b : α) : cond (!x) a b = cond x b a := by cases x <;> rfl
end
end Go.Pu

/- Small facts: parts of lists, bytes. -/
namespace Go.Pu
open Go Go.Sl Go.Mo

theorem sub_take {α : Type} (s : List α) (n : Nat) : sub s 0 (n : Int) = s.take n := by simp [sub]
end Go.Pu

/- The stable sort of packets: ranges are swapped, turned round, and single ones are moved. -/
set_option maxRecDepth 100000
namespace Go.Pu
open Go Go.Sl Go.Mo
abbrev PK := T_huff_packet

theorem rd_at {α : Type} [Inhabited α] (A : List α) (x : α) (B : List α) {i : Int} (h : i = (A.length : Int)) : rd (A ++ x :: B) i = x := by
  subst h; simp [rd, List.getD]
theorem set_at {α : Type} (A : List α) (x y : α) (B : List α) {i : Int} (h : i = (A.length : Int)) : (A ++ x :: B).set (Int.toNat i) y = A ++ y :: B := by
  subst h; simp
theorem inb_at {α : Type} (A : List α) (x : α) (B : List α) {i : Int} (h : i = (A.length : Int)) : inb i (A ++ x :: B).length = true := by
  subst h; simp [inb]; omega
theorem pk_eta (x : PK) : T_huff_packet.mk x.often_ x.symbols_ = x := rfl

/-- Two ranges are swapped. -/
theorem swR (K : Nat) : ∀ (k : Nat) (P Y1 X2 M X1 Y2 Q : List PK), Y1.length = X1.length → X2.length = Y2.length → X2.length < k → (P ++ Y1 ++ X2 ++ M ++ X1 ++ Y2 ++ Q).length < 1099511627776 →
    slices_swapRangeCmpFunc_huff_packet__b6e1_7e8b.l1 K (P.length : Int) ((P.length + (Y1.length + X2.length) + M.length : Nat) : Int) ((Y1.length + X2.length : Nat) : Int) k (P ++ Y1 ++ X2 ++ M ++ X1 ++ Y2 ++ Q) (Y1.length : Int) =
      .ok (P ++ Y1 ++ Y2 ++ M ++ X1 ++ X2 ++ Q) := by
  intro k
  induction k with
  | zero => intro P Y1 X2 M X1 Y2 Q _ _ h; omega
  | succ k ih =>
    intro P Y1 X2 M X1 Y2 Q h1 h2 h3 h4
    rw [slices_swapRangeCmpFunc_huff_packet__b6e1_7e8b.l1]
    cases X2 with
    | nil =>
      have : Y2 = [] := List.length_eq_zero_iff.1 h2.symm
      subst this
      rw [cond_dec, if_neg (by simp)]
    | cons x X2 =>
      cases Y2 with
      | nil => simp at h2
      | cons y Y2 =>
        simp only [List.length_cons, List.length_append] at h2 h3 h4
        have e1 : P ++ Y1 ++ (x :: X2) ++ M ++ X1 ++ (y :: Y2) ++ Q = (P ++ Y1) ++ x :: (X2 ++ M ++ X1 ++ (y :: (Y2 ++ Q))) := by simp
        have e2 : P ++ Y1 ++ (x :: X2) ++ M ++ X1 ++ (y :: Y2) ++ Q = (P ++ Y1 ++ (x :: X2) ++ M ++ X1) ++ y :: (Y2 ++ Q) := by simp
        have ha : w64 ((P.length : Int) + (Y1.length : Int)) = ((P ++ Y1).length : Int) := by rw [w64_id (by omega) (by omega), List.length_append]; omega
        have hb : w64 (((P.length + (Y1.length + (x :: X2).length) + M.length : Nat) : Int) + (Y1.length : Int)) = ((P ++ Y1 ++ (x :: X2) ++ M ++ X1).length : Int) := by
          simp only [List.length_cons, List.length_append]; rw [w64_id (by omega) (by omega)]; omega
        rw [cond_dec, if_pos (by simp only [List.length_cons]; omega), ha, hb]
        rw [show inb ((P ++ Y1 ++ (x :: X2) ++ M ++ X1).length : Int) (P ++ Y1 ++ (x :: X2) ++ M ++ X1 ++ (y :: Y2) ++ Q).length = true from by rw [e2]; exact inb_at _ _ _ rfl, chk_true]
        rw [show inb ((P ++ Y1).length : Int) (P ++ Y1 ++ (x :: X2) ++ M ++ X1 ++ (y :: Y2) ++ Q).length = true from by rw [e1]; exact inb_at _ _ _ rfl, chk_true]
        rw [show rd (P ++ Y1 ++ (x :: X2) ++ M ++ X1 ++ (y :: Y2) ++ Q) ((P ++ Y1 ++ (x :: X2) ++ M ++ X1).length : Int) = y from by rw [e2]; exact rd_at _ _ _ rfl]
        rw [show rd (P ++ Y1 ++ (x :: X2) ++ M ++ X1 ++ (y :: Y2) ++ Q) ((P ++ Y1).length : Int) = x from by rw [e1]; exact rd_at _ _ _ rfl]
        rw [pk_eta, pk_eta, lt_eq, e1, set_at _ _ _ _ rfl]
        have e3 : (P ++ Y1) ++ y :: (X2 ++ M ++ X1 ++ (y :: (Y2 ++ Q))) = (P ++ Y1 ++ (y :: X2) ++ M ++ X1) ++ y :: (Y2 ++ Q) := by simp
        have e4 : ((P ++ Y1 ++ (x :: X2) ++ M ++ X1).length : Int) = ((P ++ Y1 ++ (y :: X2) ++ M ++ X1).length : Int) := by simp
        rw [e3, e4, inb_at _ _ _ rfl, chk_true, set_at _ _ _ _ rfl, lt_eq, lt_eq]
        have hw : w64 ((Y1.length : Int) + 1) = ((Y1 ++ [y]).length : Int) := by rw [w64_id (by omega) (by omega), List.length_append]; rfl
        rw [hw]
        have := ih P (Y1 ++ [y]) X2 M (X1 ++ [x]) Y2 Q (by simp [h1]) (by omega) (by omega) (by simp only [List.length_append, List.length_cons, List.length_nil]; omega)
        simp only [List.length_append, List.length_cons, List.length_nil, List.append_assoc, List.cons_append, List.nil_append, Nat.zero_add] at this ⊢
        rw [show Y1.length + (X2.length + 1) = Y1.length + (1 + X2.length) from by omega]
        simp only [← Nat.add_assoc] at this ⊢
        exact this
theorem swapR (K : Nat) (P X M Y Q : List PK) (h : X.length = Y.length) (hK : X.length < K) (hl : (P ++ X ++ M ++ Y ++ Q).length < 1099511627776) {a b n : Int} (ha : a = (P.length : Int)) (hb : b = ((P.length + X.length + M.length : Nat) : Int)) (hn : n = (X.length : Int)) :
    slices_swapRangeCmpFunc_huff_packet__b6e1_7e8b.m K (P ++ X ++ M ++ Y ++ Q) a b n = .ok (P ++ Y ++ M ++ X ++ Q) := by
  subst ha; subst hb; subst hn
  have := swR K K P [] X M [] Y Q rfl h hK (by simpa using hl)
  simpa [slices_swapRangeCmpFunc_huff_packet__b6e1_7e8b.m] using this

/-- Two ranges that stand side by side are turned round. -/
theorem rotR (K : Nat) (hKl : 0 < K) : ∀ (k : Nat) (P X Y Q : List PK), 0 < X.length → 0 < Y.length → X.length + Y.length < k → (P ++ X ++ Y ++ Q).length < 1099511627776 → (P ++ X ++ Y ++ Q).length < K →
    slices_rotateCmpFunc_huff_packet__b6e1_7e8b.l1 K ((P.length + X.length : Nat) : Int) k (P ++ X ++ Y ++ Q) (X.length : Int) (Y.length : Int) = .ok (P ++ Y ++ X ++ Q) := by
  intro k
  induction k with
  | zero => intro P X Y Q _ _ h; omega
  | succ k ih =>
    intro P X Y Q hx hy h3 h4 h5
    simp only [List.length_append] at h4 h5
    rw [slices_rotateCmpFunc_huff_packet__b6e1_7e8b.l1, cond_bne]
    by_cases he : (X.length : Int) = (Y.length : Int)
    · rw [if_pos he]
      unfold slices_rotateCmpFunc_huff_packet__b6e1_7e8b.j2
      have := swapR K P X [] Y Q (by omega) (by omega) (by simp only [List.length_append, List.length_nil]; omega) (a := w64 (((P.length + X.length : Nat) : Int) - (X.length : Int))) (b := ((P.length + X.length : Nat) : Int)) (n := (X.length : Int))
        (by rw [w64_id (by omega) (by omega)]; omega) (by simp) rfl
      simp only [List.append_nil] at this
      rw [this]; rfl
    · rw [if_neg he, cond_dec]
      by_cases hg : (X.length : Int) > (Y.length : Int)
      · rw [if_pos hg]
        obtain ⟨X1, X2, rfl, hX1⟩ : ∃ X1 X2, X = X1 ++ X2 ∧ X1.length = Y.length := ⟨X.take Y.length, X.drop Y.length, by simp, by rw [List.length_take]; omega⟩
        simp only [List.length_append] at h3 h4 h5 hx hg he
        have := swapR K P X1 X2 Y Q (by omega) (by omega) (by simp only [List.length_append]; omega) (a := w64 (((P.length + (X1 ++ X2).length : Nat) : Int) - ((X1 ++ X2).length : Int))) (b := ((P.length + (X1 ++ X2).length : Nat) : Int)) (n := (Y.length : Int))
          (by simp only [List.length_append]; rw [w64_id (by omega) (by omega)]; omega) (by simp only [List.length_append]; omega) (by omega)
        rw [show P ++ (X1 ++ X2) ++ Y ++ Q = P ++ X1 ++ X2 ++ Y ++ Q from by simp, this, Res.bind_ok, lt_eq]
        have hw : w64 (((X1 ++ X2).length : Int) - (Y.length : Int)) = (X2.length : Int) := by simp only [List.length_append]; rw [w64_id (by omega) (by omega)]; omega
        rw [hw]
        have := ih (P ++ Y) X2 X1 Q (by omega) (by omega) (by omega) (by simp only [List.length_append]; omega) (by simp only [List.length_append]; omega)
        rw [hX1] at this
        rw [show ((P.length + (X1 ++ X2).length : Nat) : Int) = (((P ++ Y).length + X2.length : Nat) : Int) from by simp only [List.length_append]; omega, this]
        simp
      · rw [if_neg hg]
        obtain ⟨Y1, Y2, rfl, hY2⟩ : ∃ Y1 Y2, Y = Y1 ++ Y2 ∧ Y2.length = X.length := ⟨Y.take (Y.length - X.length), Y.drop (Y.length - X.length), by simp, by rw [List.length_drop]; omega⟩
        simp only [List.length_append] at h3 h4 h5 hy hg he
        have := swapR K P X Y1 Y2 Q (by omega) (by omega) (by simp only [List.length_append]; omega) (a := w64 (((P.length + X.length : Nat) : Int) - (X.length : Int))) (b := w64 (w64 (((P.length + X.length : Nat) : Int) + ((Y1 ++ Y2).length : Int)) - (X.length : Int))) (n := (X.length : Int))
          (by rw [w64_id (by omega) (by omega)]; omega) (by simp only [List.length_append]; rw [w64_id (x := ((P.length + X.length : Nat) : Int) + _) (by omega) (by omega), w64_id (by omega) (by omega)]; omega) rfl
        rw [show P ++ X ++ (Y1 ++ Y2) ++ Q = P ++ X ++ Y1 ++ Y2 ++ Q from by simp, this, Res.bind_ok, lt_eq]
        have hw : w64 (((Y1 ++ Y2).length : Int) - (X.length : Int)) = (Y1.length : Int) := by simp only [List.length_append]; rw [w64_id (by omega) (by omega)]; omega
        rw [hw]
        have := ih P Y2 Y1 (X ++ Q) (by omega) (by omega) (by omega) (by simp only [List.length_append]; omega) (by simp only [List.length_append]; omega)
        rw [hY2] at this
        rw [show P ++ Y2 ++ Y1 ++ X ++ Q = P ++ Y2 ++ Y1 ++ (X ++ Q) from by simp, this]
        simp
theorem rotate (K : Nat) (P X Y Q : List PK) (hx : 0 < X.length) (hy : 0 < Y.length) (h4 : (P ++ X ++ Y ++ Q).length < 1099511627776) (h5 : (P ++ X ++ Y ++ Q).length < K) {a m b : Int} (ha : a = (P.length : Int)) (hm : m = ((P.length + X.length : Nat) : Int))
    (hb : b = ((P.length + X.length + Y.length : Nat) : Int)) : slices_rotateCmpFunc_huff_packet__b6e1_7e8b.m K (P ++ X ++ Y ++ Q) a m b = .ok (P ++ Y ++ X ++ Q) := by
  subst ha; subst hm; subst hb
  unfold slices_rotateCmpFunc_huff_packet__b6e1_7e8b.m
  have h4' := h4; have h5' := h5
  simp only [List.length_append] at h4' h5'
  rw [lt_eq, lt_eq, show w64 (((P.length + X.length : Nat) : Int) - (P.length : Int)) = (X.length : Int) from by rw [w64_id (by omega) (by omega)]; omega,
    show w64 (((P.length + X.length + Y.length : Nat) : Int) - ((P.length + X.length : Nat) : Int)) = (Y.length : Int) from by rw [w64_id (by omega) (by omega)]; omega]
  exact rotR K (by omega) K P X Y Q hx hy (by omega) h4 h5

/-! ## Order -/
def Srt (l : List PK) : Prop := l.Pairwise fun x y => x.often_ ≤ y.often_
/-- The same elements, in order; those that come as often as each other as they stood. -/
def SS (l l' : List PK) : Prop := Srt l' ∧ l'.Perm l ∧ ∀ k : Int, l'.filter (fun x => x.often_ == k) = l.filter (fun x => x.often_ == k)
theorem Srt.append {A B : List PK} (ha : Srt A) (hb : Srt B) (h : ∀ x ∈ A, ∀ y ∈ B, x.often_ ≤ y.often_) : Srt (A ++ B) := List.pairwise_append.2 ⟨ha, hb, h⟩
theorem Srt.left {A B : List PK} (h : Srt (A ++ B)) : Srt A := (List.pairwise_append.1 h).1
theorem Srt.right {A B : List PK} (h : Srt (A ++ B)) : Srt B := (List.pairwise_append.1 h).2.1
theorem Srt.cross {A B : List PK} (h : Srt (A ++ B)) : ∀ x ∈ A, ∀ y ∈ B, x.often_ ≤ y.often_ := (List.pairwise_append.1 h).2.2
theorem SS.refl {l : List PK} (h : Srt l) : SS l l := ⟨h, List.Perm.refl _, fun _ => rfl⟩
/-- Ranges of which all of one come less often than all of the other. -/
theorem filter_swap {X Y : List PK} (h : ∀ x ∈ X, ∀ y ∈ Y, y.often_ < x.often_) (k : Int) : (X ++ Y).filter (fun x => x.often_ == k) = (Y ++ X).filter (fun x => x.often_ == k) := by
  simp only [List.filter_append]
  by_cases hx : X.filter (fun x => x.often_ == k) = []
  · rw [hx]; simp
  · have : Y.filter (fun x => x.often_ == k) = [] := by
      obtain ⟨x, hx⟩ := List.exists_mem_of_ne_nil _ hx
      rw [List.mem_filter] at hx
      rw [List.filter_eq_nil_iff]
      intro y hy
      have := h x hx.1 y hy
      have h2 : x.often_ = k := by simpa using hx.2
      simp only [beq_iff_eq]; omega
    rw [this]; simp
end Go.Pu

/- The stable sort of packets: insertion. -/
set_option maxRecDepth 100000
namespace Go.Pu
open Go Go.Sl Go.Mo

theorem snocCases {α : Type} (A : List α) : A = [] ∨ ∃ A' z, A = A' ++ [z] := by
  rcases List.eq_nil_or_concat A with h | ⟨A', z, h⟩
  · exact .inl h
  · exact .inr ⟨A', z, by rw [h]; simp⟩

def cmpI (x y : Int) : Int := if x < y then -1 else if x > y then 1 else 0
theorem cmpCompare (K : Nat) (x y : Int) : cmp_Compare_int_.m K x y = .ok (cmpI x y) := by
  unfold cmp_Compare_int_.m cmp_isNaN_int_.m cmpI
  have h : ∀ z : Int, (z != z) = false := fun z => by simp
  simp only [h, lt_eq, Res.bind_ok, cond_false, cond_dec]
  split <;> (try rfl)
  split <;> rfl
theorem cmpL (K : Nat) (x y : PK) : huff_Lengths_2.m K x y = .ok (cmpI x.often_ y.often_) := by
  unfold huff_Lengths_2.m; rw [cmpCompare]; rfl
theorem cmpI_neg (x y : Int) : decide (cmpI x y < (0 : Int)) = decide (x < y) := by
  unfold cmpI
  by_cases h : x < y
  · rw [if_pos h]; simp [h]
  · rw [if_neg h]; split <;> simp [h]

theorem Srt.last {A : List PK} {x : PK} (h : Srt A) (hx : ∀ y, A.getLast? = some y → y.often_ ≤ x.often_) : ∀ y ∈ A, y.often_ ≤ x.often_ := by
  intro y hy
  rcases snocCases A with rfl | ⟨A', z, rfl⟩
  · cases hy
  · have hz := hx z (by simp)
    rcases List.mem_append.1 hy with h1 | h1
    · have := h.cross y h1 z (by simp); omega
    · simp at h1; subst h1; exact hz

/-- A packet goes ahead of those that come more often. -/
theorem SS.ins {A1 A2 : List PK} {x : PK} (h : Srt (A1 ++ A2)) (h1 : ∀ y ∈ A1, y.often_ ≤ x.often_) (h2 : ∀ y ∈ A2, x.often_ < y.often_) : SS (A1 ++ A2 ++ [x]) (A1 ++ x :: A2) := by
  refine ⟨?_, ?_, fun k => ?_⟩
  · refine Srt.append h.left ?_ ?_
    · exact List.pairwise_cons.2 ⟨fun y hy => by have := h2 y hy; omega, h.right⟩
    · intro a ha y hy
      rcases List.mem_cons.1 hy with rfl | hy
      · exact h1 a ha
      · exact h.cross a ha y hy
  · rw [List.append_assoc]
    exact List.Perm.append_left _ (List.perm_append_comm (l₁ := [x]) (l₂ := A2))
  · have := filter_swap (X := A2) (Y := [x]) (fun a ha y hy => by simp at hy; subst hy; exact h2 a ha) k
    rw [List.append_assoc, List.filter_append, List.filter_append (l₁ := A1), this]
    rfl

theorem insStep (K : Nat) (g : List PK → Int → Res (List PK)) (i : Nat) (P Q : List PK) (x : PK) (hi : i < 1099511627776) : ∀ (k : Nat) (A B : List PK), A.length < k → (P ++ A ++ x :: (B ++ Q)).length < 1099511627776 →
    ∃ A1 A2, A = A1 ++ A2 ∧ (∀ y ∈ A2, x.often_ < y.often_) ∧ (∀ y, A1.getLast? = some y → y.often_ ≤ x.often_) ∧
      slices_insertionSortCmpFunc_huff_packet__b6e1_5de2.l2 K g (P.length : Int) (i : Int) k (P ++ A ++ x :: (B ++ Q)) ((P.length + A.length : Nat) : Int) = g (P ++ A1 ++ x :: (A2 ++ B ++ Q)) ((i + 1 : Nat) : Int) := by
  intro k
  induction k with
  | zero => intro A B h; omega
  | succ k ih =>
    intro A B h hl
    have hl' := hl
    simp only [List.length_append, List.length_cons] at hl'
    rcases snocCases A with rfl | ⟨A', y, rfl⟩
    · refine ⟨[], [], rfl, (fun y hy => by cases hy), (fun y hy => by cases hy), ?_⟩
      rw [slices_insertionSortCmpFunc_huff_packet__b6e1_5de2.l2, cond_dec, if_neg (by simp)]
      unfold slices_insertionSortCmpFunc_huff_packet__b6e1_5de2.j3
      rw [cond_false, lt_eq, show w64 ((i : Int) + 1) = ((i + 1 : Nat) : Int) from by rw [w64_id (by omega) (by omega)]; rfl]
      simp
    · simp only [List.length_append, List.length_cons, List.length_nil] at h hl' ⊢
      have ej : (((P.length + (A'.length + (0 + 1)) : Nat)) : Int) = ((P ++ (A' ++ [y])).length : Int) := by simp
      have ej1 : w64 (((P.length + (A'.length + (0 + 1)) : Nat) : Int) - 1) = ((P ++ A').length : Int) := by rw [w64_id (by omega) (by omega)]; simp only [List.length_append]; omega
      have d1 : P ++ (A' ++ [y]) ++ x :: (B ++ Q) = (P ++ A') ++ y :: (x :: (B ++ Q)) := by simp
      have r1 : rd (P ++ (A' ++ [y]) ++ x :: (B ++ Q)) (((P.length + (A'.length + (0 + 1)) : Nat)) : Int) = x := rd_at _ _ _ ej
      have r2 : rd (P ++ (A' ++ [y]) ++ x :: (B ++ Q)) ((P ++ A').length : Int) = y := by rw [d1]; exact rd_at _ _ _ rfl
      have b1 : inb (((P.length + (A'.length + (0 + 1)) : Nat)) : Int) (P ++ (A' ++ [y]) ++ x :: (B ++ Q)).length = true := inb_at _ _ _ ej
      have b2 : inb ((P ++ A').length : Int) (P ++ (A' ++ [y]) ++ x :: (B ++ Q)).length = true := by rw [d1]; exact inb_at _ _ _ rfl
      rw [slices_insertionSortCmpFunc_huff_packet__b6e1_5de2.l2, cond_dec, if_pos (by omega), b1, chk_true, ej1, b2, chk_true, r1, r2, pk_eta, pk_eta, cmpL, Res.bind_ok, cmpI_neg]
      unfold slices_insertionSortCmpFunc_huff_packet__b6e1_5de2.j3
      rw [cond_dec]
      by_cases hxy : x.often_ < y.often_
      · rw [if_pos hxy, ej1, b2, chk_true, b1, chk_true, r1, r2, pk_eta, pk_eta, lt_eq]
        have s1 : (P ++ (A' ++ [y]) ++ x :: (B ++ Q)).set (Int.toNat (((P.length + (A'.length + (0 + 1)) : Nat)) : Int)) y = (P ++ A') ++ y :: (y :: (B ++ Q)) := by rw [set_at _ _ _ _ ej]; simp
        rw [s1, inb_at _ _ _ rfl, chk_true, set_at _ _ _ _ rfl, lt_eq, lt_eq]
        obtain ⟨A1, A2, h1, h2, h3, h4⟩ := ih A' (y :: B) (by omega) (by simp only [List.length_append, List.length_cons]; omega)
        refine ⟨A1, A2 ++ [y], by rw [h1]; simp, fun z hz => ?_, h3, ?_⟩
        · rcases List.mem_append.1 hz with hz | hz
          · exact h2 z hz
          · simp at hz; subst hz; exact hxy
        · have : ((P ++ A').length : Int) = ((P.length + A'.length : Nat) : Int) := by simp
          rw [this]
          refine h4.trans ?_
          simp
      · refine ⟨A' ++ [y], [], by simp, fun z hz => (by cases hz), fun z hz => ?_, ?_⟩
        · simp at hz; subst hz; omega
        · rw [if_neg hxy, lt_eq, show w64 ((i : Int) + 1) = ((i + 1 : Nat) : Int) from by rw [w64_id (by omega) (by omega)]; rfl]
          simp

theorem SS.snoc {S0 S S' : List PK} {x : PK} (h : SS S0 S) (h' : SS (S ++ [x]) S') : SS (S0 ++ [x]) S' :=
  ⟨h'.1, h'.2.1.trans (h.2.1.append_right _), fun k => by rw [h'.2.2 k, List.filter_append, h.2.2 k, ← List.filter_append]⟩

theorem insLoop (K : Nat) (P Q : List PK) (hK : (1099511627776 : Nat) > K) : ∀ (T S0 S : List PK) (k : Nat), SS S0 S → 0 < S.length → T.length < k → (P ++ S ++ T ++ Q).length < K →
    ∃ S', SS (S0 ++ T) S' ∧ slices_insertionSortCmpFunc_huff_packet__b6e1_5de2.l1 K (P.length : Int) ((P.length + S.length + T.length : Nat) : Int) k (P ++ S ++ T ++ Q) ((P.length + S.length : Nat) : Int) = .ok (P ++ S' ++ Q)
  | [], S0, S, k, hs, h0, hk, hl => by
    obtain ⟨k, rfl⟩ : ∃ m, k = m + 1 := ⟨k - 1, by simp at hk; omega⟩
    refine ⟨S, by simpa using hs, ?_⟩
    rw [slices_insertionSortCmpFunc_huff_packet__b6e1_5de2.l1, cond_dec, if_neg (by simp)]
    simp
  | x :: T, S0, S, k, hs, h0, hk, hl => by
    obtain ⟨k, rfl⟩ : ∃ m, k = m + 1 := ⟨k - 1, by simp at hk; omega⟩
    simp only [List.length_cons, List.length_append] at hk hl
    rw [slices_insertionSortCmpFunc_huff_packet__b6e1_5de2.l1, cond_dec, if_pos (by simp only [List.length_cons]; omega)]
    obtain ⟨A1, A2, h1, h2, h3, h4⟩ := insStep K (slices_insertionSortCmpFunc_huff_packet__b6e1_5de2.l1 K (P.length : Int) ((P.length + S.length + (x :: T).length : Nat) : Int) k) (P.length + S.length) P (T ++ Q) x (by omega) K S []
      (by omega) (by simp only [List.length_append, List.length_cons, List.length_nil]; omega)
    simp only [List.nil_append, List.append_nil] at h4
    rw [show P ++ S ++ x :: T ++ Q = P ++ S ++ x :: (T ++ Q) from by simp, h4]
    subst h1
    have hss := SS.ins hs.1 (hs.1.left.last h3) h2
    simp only [List.length_append] at hl
    obtain ⟨S', g1, g2⟩ := insLoop K P Q hK T (S0 ++ [x]) (A1 ++ x :: A2) k (hs.snoc hss) (by simp only [List.length_append, List.length_cons]; omega) (by omega) (by simp only [List.length_append, List.length_cons]; omega)
    refine ⟨S', by simpa using g1, ?_⟩
    rw [← g2]
    simp only [List.length_append, List.length_cons, List.append_assoc, List.cons_append]
    congr 2 <;> (simp only [Nat.add_assoc]; congr 1 <;> omega)
/-- A range, sorted by insertion. -/
theorem insertion (K : Nat) (P S Q : List PK) (hK : (1099511627776 : Nat) > K) (hl : (P ++ S ++ Q).length + 1 < K) {a b : Int} (ha : a = (P.length : Int)) (hb : b = ((P.length + S.length : Nat) : Int)) :
    ∃ S', SS S S' ∧ slices_insertionSortCmpFunc_huff_packet__b6e1_5de2.m K (P ++ S ++ Q) a b = .ok (P ++ S' ++ Q) := by
  subst ha; subst hb
  unfold slices_insertionSortCmpFunc_huff_packet__b6e1_5de2.m
  have hl' := hl
  simp only [List.length_append] at hl'
  rw [lt_eq, show w64 ((P.length : Int) + 1) = ((P.length + 1 : Nat) : Int) from by rw [w64_id (by omega) (by omega)]; rfl]
  cases S with
  | nil =>
    refine ⟨[], ⟨List.Pairwise.nil, List.Perm.refl _, fun _ => rfl⟩, ?_⟩
    obtain ⟨k, rfl⟩ : ∃ m, K = m + 1 := ⟨K - 1, by omega⟩
    rw [slices_insertionSortCmpFunc_huff_packet__b6e1_5de2.l1, cond_dec, if_neg (by simp only [List.length_nil]; omega)]
  | cons x S =>
    simp only [List.length_cons] at hl'
    obtain ⟨S', h1, h2⟩ := insLoop K P Q hK S [x] [x] K (SS.refl (List.pairwise_singleton _ _)) (by simp) (by omega) (by simp only [List.length_append, List.length_cons, List.length_nil]; omega)
    refine ⟨S', by simpa using h1, ?_⟩
    rw [← h2]
    simp only [List.length_cons, List.length_nil, List.append_assoc, List.cons_append, List.nil_append]
    congr 2
    omega
end Go.Pu

/- The stable sort of packets: two sorted ranges are merged in place. -/
set_option maxRecDepth 100000
namespace Go.Pu
open Go Go.Sl Go.Mo

theorem halfN {i j : Nat} (h : i + j < 1099511627776) : wr .i64 (ishr .u64 (wr .u64 (w64 ((i : Int) + (j : Int)))) 1) = (((i + j) / 2 : Nat) : Int) := by
  rw [show w64 ((i : Int) + (j : Int)) = ((i + j : Nat) : Int) from by rw [w64_id (by omega) (by omega)]; rfl, wru64_id (by omega) (by omega)]
  have := ishr_nat (k := .u64) (a := i + j) (n := 1) (by decide)
  rw [show ((1 : Nat) : Int) = 1 from rfl] at this
  rw [this, wri64_id (by omega) (by omega)]
theorem rd_app {α : Type} [Inhabited α] (X Y : List α) (t : Nat) : rd (X ++ Y) ((X.length + t : Nat) : Int) = rd Y (t : Int) := by
  simp only [rd, Int.toNat_natCast, List.getD]
  rw [List.getElem?_append_right (by omega), Nat.add_sub_cancel_left]
theorem rd_app_left {α : Type} [Inhabited α] (X Y : List α) {t : Nat} (h : t < X.length) : rd (X ++ Y) (t : Int) = rd X (t : Int) := by
  simp only [rd, Int.toNat_natCast, List.getD]
  rw [List.getElem?_append_left h]
theorem rd_mem {α : Type} [Inhabited α] {X : List α} {x : α} (h : x ∈ X) : ∃ i, i < X.length ∧ x = rd X (i : Int) := by
  obtain ⟨i, hi, rfl⟩ := List.getElem_of_mem h
  exact ⟨i, hi, by simp [rd, List.getD, hi]⟩
theorem rd_take {α : Type} [Inhabited α] {X : List α} {n t : Nat} (h : t < n) : rd (X.take n) (t : Int) = rd X (t : Int) := by
  simp only [rd, Int.toNat_natCast, List.getD, List.getElem?_take, if_pos h]
theorem rd_drop {α : Type} [Inhabited α] {X : List α} {n t : Nat} : rd (X.drop n) (t : Int) = rd X ((n + t : Nat) : Int) := by
  simp only [rd, Int.toNat_natCast, List.getD, List.getElem?_drop]
theorem Srt.rd {X : List PK} (h : Srt X) {i j : Nat} (hij : i ≤ j) (hj : j < X.length) : (Sl.rd X (i : Int)).often_ ≤ (Sl.rd X (j : Int)).often_ := by
  by_cases he : i = j
  · subst he; exact Int.le_refl _
  · have := List.pairwise_iff_getElem.1 h i j (by omega) hj (by omega)
    have h1 : i < X.length := by omega
    simp only [Sl.rd, Int.toNat_natCast, List.getD, List.getElem?_eq_getElem h1, List.getElem?_eq_getElem hj]
    exact this
theorem inbN {i n : Nat} (h : i < n) : inb (i : Int) n = true := by simp only [inb, decide_eq_true_eq]; omega

theorem findLo (K : Nat) (rc : List PK → Int → Int → Int → Res (List PK)) (P B Q : List PK) (x : PK) (hB : Srt B) (hl : (P ++ [x] ++ B ++ Q).length < 549755813888) : ∀ (k i j : Nat), i ≤ j → j ≤ B.length → j - i < k →
    (∀ t, t < i → (rd B (t : Int)).often_ < x.often_) → (∀ t, j ≤ t → t < B.length → x.often_ ≤ (rd B (t : Int)).often_) →
    ∃ q, q ≤ B.length ∧ (∀ t, t < q → (rd B (t : Int)).often_ < x.often_) ∧ (∀ t, q ≤ t → t < B.length → x.often_ ≤ (rd B (t : Int)).often_) ∧
      slices_symMergeCmpFunc_huff_packet__b6e1_7e8b.l1 K rc (P ++ [x] ++ B ++ Q) (P.length : Int) k ((P.length + 1 + i : Nat) : Int) ((P.length + 1 + j : Nat) : Int) =
        slices_symMergeCmpFunc_huff_packet__b6e1_7e8b.j2 K rc (P ++ [x] ++ B ++ Q) (P.length : Int) ((P.length + 1 + q : Nat) : Int) := by
  intro k
  induction k with
  | zero => intro i j h1 h2 h3; omega
  | succ k ih =>
    intro i j h1 h2 h3 hlo hhi
    have hl' := hl
    simp only [List.length_append, List.length_cons, List.length_nil] at hl'
    rw [slices_symMergeCmpFunc_huff_packet__b6e1_7e8b.l1, cond_dec]
    by_cases hij : i < j
    · rw [if_pos (by omega), halfN (by omega), lt_eq]
      obtain ⟨h, hh⟩ : ∃ h, (P.length + 1 + i + (P.length + 1 + j)) / 2 = P.length + 1 + h := ⟨(P.length + 1 + i + (P.length + 1 + j)) / 2 - (P.length + 1), by omega⟩
      have hi1 : i ≤ h := by omega
      have hi2 : h < j := by omega
      have r1 : rd (P ++ [x] ++ B ++ Q) ((P.length + 1 + h : Nat) : Int) = rd B (h : Int) := by
        have := rd_app (P ++ [x]) (B ++ Q) h
        rw [rd_app_left B Q (by omega)] at this
        simpa using this
      have r2 : rd (P ++ [x] ++ B ++ Q) (P.length : Int) = x := by
        rw [show P ++ [x] ++ B ++ Q = P ++ x :: (B ++ Q) from by simp]; exact rd_at _ _ _ rfl
      rw [hh, inbN (by simp only [List.length_append, List.length_cons, List.length_nil]; omega), chk_true, inbN (by simp only [List.length_append, List.length_cons, List.length_nil]; omega), chk_true, r1, r2, pk_eta, pk_eta, cmpL, Res.bind_ok, cmpI_neg, cond_dec]
      by_cases hc : (rd B (h : Int)).often_ < x.often_
      · rw [if_pos hc, lt_eq, show w64 (((P.length + 1 + h : Nat) : Int) + 1) = ((P.length + 1 + (h + 1) : Nat) : Int) from by rw [w64_id (by omega) (by omega)]; omega]
        exact ih (h + 1) j (by omega) h2 (by omega) (fun t ht => by have := hB.rd (i := t) (j := h) (by omega) (by omega); omega) hhi
      · rw [if_neg hc]
        exact ih i h hi1 (by omega) (by omega) hlo (fun t ht htl => by have := hB.rd (i := h) (j := t) ht htl; omega)
    · rw [if_neg (by omega)]
      have : i = j := by omega
      subst this
      exact ⟨i, h2, hlo, hhi, rfl⟩

theorem moveR (K : Nat) (rc : List PK → Int → Int → Int → Res (List PK)) (x : PK) : ∀ (D P Q : List PK) (k : Nat), D.length < k → (P ++ x :: (D ++ Q)).length < 549755813888 → ∀ i : Int, i = ((P.length + 1 + D.length : Nat) : Int) →
    slices_symMergeCmpFunc_huff_packet__b6e1_7e8b.l3 K rc i k (P ++ x :: (D ++ Q)) (P.length : Int) = .ok (P ++ D ++ x :: Q)
  | [], P, Q, k, hk, hl, i, hi => by
    obtain ⟨k, rfl⟩ : ∃ m, k = m + 1 := ⟨k - 1, by simp at hk; omega⟩
    simp only [List.length_append, List.length_cons, List.length_nil] at hl hi
    subst hi
    rw [slices_symMergeCmpFunc_huff_packet__b6e1_7e8b.l3, cond_dec, if_neg (by rw [w64_id (by omega) (by omega)]; omega)]
    simp
  | y :: D, P, Q, k, hk, hl, i, hi => by
    obtain ⟨k, rfl⟩ : ∃ m, k = m + 1 := ⟨k - 1, by simp at hk; omega⟩
    simp only [List.length_append, List.length_cons] at hl hi hk
    have ih := moveR K rc x D (P ++ [y]) Q k (by omega) (by simp only [List.length_append, List.length_cons, List.length_nil]; omega) i (by rw [hi]; simp only [List.length_append, List.length_cons, List.length_nil]; omega)
    subst hi
    have e1 : w64 ((P.length : Int) + 1) = ((P ++ [x]).length : Int) := by rw [w64_id (by omega) (by omega)]; simp
    have d1 : P ++ x :: (y :: D ++ Q) = (P ++ [x]) ++ y :: (D ++ Q) := by simp
    have r1 : rd (P ++ x :: (y :: D ++ Q)) ((P ++ [x]).length : Int) = y := by rw [d1]; exact rd_at _ _ _ rfl
    have r2 : rd (P ++ x :: (y :: D ++ Q)) (P.length : Int) = x := rd_at _ _ _ rfl
    have b1 : inb ((P ++ [x]).length : Int) (P ++ x :: (y :: D ++ Q)).length = true := by rw [d1]; exact inb_at _ _ _ rfl
    rw [slices_symMergeCmpFunc_huff_packet__b6e1_7e8b.l3, cond_dec, if_pos (by rw [w64_id (by omega) (by omega)]; omega), e1, b1, chk_true, inb_at _ _ _ rfl, chk_true, r1, r2, pk_eta, pk_eta, set_at _ _ _ _ rfl, lt_eq]
    have d2 : P ++ y :: (y :: D ++ Q) = (P ++ [y]) ++ y :: (D ++ Q) := by simp
    have e2 : ((P ++ [x]).length : Int) = ((P ++ [y]).length : Int) := by simp
    rw [d2, e2, inb_at _ _ _ rfl, chk_true, set_at _ _ _ _ rfl, lt_eq, lt_eq, ih]
    simp

theorem findHi (K : Nat) (rc : List PK → Int → Int → Int → Res (List PK)) (P A Q : List PK) (x : PK) (hA : Srt A) (hl : (P ++ A ++ x :: Q).length < 549755813888) : ∀ (k i j : Nat), i ≤ j → j ≤ A.length → j - i < k →
    (∀ t, t < i → (rd A (t : Int)).often_ ≤ x.often_) → (∀ t, j ≤ t → t < A.length → x.often_ < (rd A (t : Int)).often_) →
    ∃ q, q ≤ A.length ∧ (∀ t, t < q → (rd A (t : Int)).often_ ≤ x.often_) ∧ (∀ t, q ≤ t → t < A.length → x.often_ < (rd A (t : Int)).often_) ∧
      slices_symMergeCmpFunc_huff_packet__b6e1_7e8b.l5 K rc (P ++ A ++ x :: Q) ((P.length + A.length : Nat) : Int) k ((P.length + i : Nat) : Int) ((P.length + j : Nat) : Int) =
        slices_symMergeCmpFunc_huff_packet__b6e1_7e8b.j6 K rc (P ++ A ++ x :: Q) ((P.length + A.length : Nat) : Int) ((P.length + q : Nat) : Int) := by
  intro k
  induction k with
  | zero => intro i j h1 h2 h3; omega
  | succ k ih =>
    intro i j h1 h2 h3 hlo hhi
    have hl' := hl
    simp only [List.length_append, List.length_cons] at hl'
    rw [slices_symMergeCmpFunc_huff_packet__b6e1_7e8b.l5, cond_dec]
    by_cases hij : i < j
    · rw [if_pos (by omega), halfN (by omega), lt_eq]
      obtain ⟨h, hh⟩ : ∃ h, (P.length + i + (P.length + j)) / 2 = P.length + h := ⟨(P.length + i + (P.length + j)) / 2 - P.length, by omega⟩
      have hi1 : i ≤ h := by omega
      have hi2 : h < j := by omega
      have r1 : rd (P ++ A ++ x :: Q) ((P.length + h : Nat) : Int) = rd A (h : Int) := by
        have := rd_app P (A ++ x :: Q) h
        rw [rd_app_left A (x :: Q) (by omega)] at this
        simpa using this
      have r2 : rd (P ++ A ++ x :: Q) ((P.length + A.length : Nat) : Int) = x := rd_at _ _ _ (by simp)
      rw [hh, inbN (by simp only [List.length_append, List.length_cons]; omega), chk_true, inbN (by simp only [List.length_append, List.length_cons]; omega), chk_true, r1, r2, pk_eta, pk_eta, cmpL, Res.bind_ok, cmpI_neg, cond_not, cond_dec]
      by_cases hc : x.often_ < (rd A (h : Int)).often_
      · rw [if_pos hc]
        exact ih i h hi1 (by omega) (by omega) hlo (fun t ht htl => by have := hA.rd (i := h) (j := t) ht htl; omega)
      · rw [if_neg hc, lt_eq, show w64 (((P.length + h : Nat) : Int) + 1) = ((P.length + (h + 1) : Nat) : Int) from by rw [w64_id (by omega) (by omega)]; omega]
        exact ih (h + 1) j (by omega) h2 (by omega) (fun t ht => by have := hA.rd (i := t) (j := h) (by omega) (by omega); omega) hhi
    · rw [if_neg (by omega)]
      have : i = j := by omega
      subst this
      exact ⟨i, h2, hlo, hhi, rfl⟩

theorem moveL (K : Nat) (rc : List PK → Int → Int → Int → Res (List PK)) (x : PK) (P : List PK) : ∀ (k : Nat) (D Q : List PK), D.length < k → (P ++ D ++ x :: Q).length < 549755813888 →
    slices_symMergeCmpFunc_huff_packet__b6e1_7e8b.l7 K rc (P.length : Int) k (P ++ D ++ x :: Q) ((P.length + D.length : Nat) : Int) = .ok (P ++ x :: (D ++ Q)) := by
  intro k
  induction k with
  | zero => intro D Q h; omega
  | succ k ih =>
    intro D Q hk hl
    simp only [List.length_append, List.length_cons] at hl
    rcases snocCases D with rfl | ⟨D', y, rfl⟩
    · rw [slices_symMergeCmpFunc_huff_packet__b6e1_7e8b.l7, cond_dec, if_neg (by simp)]; simp
    · simp only [List.length_append, List.length_cons, List.length_nil] at hl hk ⊢
      have ej : (((P.length + (D'.length + (0 + 1)) : Nat)) : Int) = ((P ++ (D' ++ [y])).length : Int) := by simp
      have ej1 : w64 (((P.length + (D'.length + (0 + 1)) : Nat) : Int) - 1) = ((P ++ D').length : Int) := by rw [w64_id (by omega) (by omega)]; simp only [List.length_append]; omega
      have d1 : P ++ (D' ++ [y]) ++ x :: Q = (P ++ D') ++ y :: (x :: Q) := by simp
      have r1 : rd (P ++ (D' ++ [y]) ++ x :: Q) (((P.length + (D'.length + (0 + 1)) : Nat)) : Int) = x := rd_at _ _ _ ej
      have r2 : rd (P ++ (D' ++ [y]) ++ x :: Q) ((P ++ D').length : Int) = y := by rw [d1]; exact rd_at _ _ _ rfl
      have b1 : inb (((P.length + (D'.length + (0 + 1)) : Nat)) : Int) (P ++ (D' ++ [y]) ++ x :: Q).length = true := inb_at _ _ _ ej
      have b2 : inb ((P ++ D').length : Int) (P ++ (D' ++ [y]) ++ x :: Q).length = true := by rw [d1]; exact inb_at _ _ _ rfl
      have s1 : (P ++ (D' ++ [y]) ++ x :: Q).set (Int.toNat (((P.length + (D'.length + (0 + 1)) : Nat)) : Int)) y = (P ++ D') ++ y :: (y :: Q) := by rw [set_at _ _ _ _ ej]; simp
      rw [slices_symMergeCmpFunc_huff_packet__b6e1_7e8b.l7, cond_dec, if_pos (by omega), ej1, b2, chk_true, b1, chk_true, r1, r2, pk_eta, pk_eta, s1, lt_eq, inb_at _ _ _ rfl, chk_true, set_at _ _ _ _ rfl, lt_eq, lt_eq]
      have := ih D' (y :: Q) (by omega) (by simp only [List.length_append, List.length_cons]; omega)
      rw [show ((P ++ D').length : Int) = ((P.length + D'.length : Nat) : Int) from by simp, this]
      simp

/-- One packet is merged into a range behind it. -/
theorem symLo (K : Nat) (rc : List PK → Int → Int → Int → Res (List PK)) (P B Q : List PK) (x : PK) (hB : Srt B) (hl : (P ++ [x] ++ B ++ Q).length < 549755813888) (hK : B.length < K) :
    ∃ M, SS ([x] ++ B) M ∧ slices_symMergeCmpFunc_huff_packet__b6e1_7e8b.l1 K rc (P ++ [x] ++ B ++ Q) (P.length : Int) K ((P.length + 1 : Nat) : Int) ((P.length + 1 + B.length : Nat) : Int) = .ok (P ++ M ++ Q) := by
  obtain ⟨q, h1, h2, h3, h4⟩ := findLo K rc P B Q x hB hl K 0 B.length (by omega) (by omega) (by omega) (fun t ht => by omega) (fun t ht htl => by omega)
  have hq : (B.take q).length = q := by rw [List.length_take]; omega
  refine ⟨B.take q ++ x :: B.drop q, ⟨?_, ?_, fun k => ?_⟩, ?_⟩
  · refine Srt.append (A := B.take q) (hB.sublist (List.take_sublist ..)) (List.pairwise_cons.2 ⟨fun y hy => ?_, hB.sublist (List.drop_sublist ..)⟩) fun a ha y hy => ?_
    · obtain ⟨i, hi, rfl⟩ := rd_mem hy
      rw [List.length_drop] at hi
      rw [rd_drop]; exact h3 _ (by omega) (by omega)
    · obtain ⟨i, hi, rfl⟩ := rd_mem ha
      rw [hq] at hi
      rw [rd_take hi]
      have hax := h2 i hi
      rcases List.mem_cons.1 hy with rfl | hy
      · omega
      · obtain ⟨j, hj, rfl⟩ := rd_mem hy
        rw [List.length_drop] at hj
        rw [rd_drop]; exact hB.rd (by omega) (by omega)
  · refine List.Perm.trans ?_ (List.Perm.of_eq (by simp : [x] ++ (B.take q ++ B.drop q) = [x] ++ B))
    rw [← List.append_assoc, show B.take q ++ x :: B.drop q = (B.take q ++ [x]) ++ B.drop q from by simp]
    exact List.Perm.append_right _ List.perm_append_comm
  · have := filter_swap (X := [x]) (Y := B.take q) (fun a ha y hy => by
      simp at ha; subst ha
      obtain ⟨i, hi, rfl⟩ := rd_mem hy
      rw [hq] at hi
      rw [rd_take hi]; exact h2 i hi) k
    rw [show B.take q ++ x :: B.drop q = (B.take q ++ [x]) ++ B.drop q from by simp, List.filter_append, ← this, ← List.filter_append, List.append_assoc, List.take_append_drop]
  · rw [show ((P.length + 1 + 0 : Nat) : Int) = ((P.length + 1 : Nat) : Int) from rfl] at h4
    rw [h4]
    unfold slices_symMergeCmpFunc_huff_packet__b6e1_7e8b.j2
    have hl' := hl
    simp only [List.length_append, List.length_cons, List.length_nil] at hl'
    have := moveR K rc x (B.take q) P (B.drop q ++ Q) K (by omega) (by simp only [List.length_append, List.length_cons, List.length_drop]; omega) ((P.length + 1 + q : Nat) : Int) (by rw [hq])
    rw [show P ++ x :: (B.take q ++ (B.drop q ++ Q)) = P ++ [x] ++ B ++ Q from by rw [← List.append_assoc (B.take q), List.take_append_drop]; simp] at this
    rw [this]
    simp
theorem symHi (K : Nat) (rc : List PK → Int → Int → Int → Res (List PK)) (P A Q : List PK) (x : PK) (hA : Srt A) (hl : (P ++ A ++ x :: Q).length < 549755813888) (hK : A.length < K) :
    ∃ M, SS (A ++ [x]) M ∧ slices_symMergeCmpFunc_huff_packet__b6e1_7e8b.l5 K rc (P ++ A ++ x :: Q) ((P.length + A.length : Nat) : Int) K (P.length : Int) ((P.length + A.length : Nat) : Int) = .ok (P ++ M ++ Q) := by
  obtain ⟨q, h1, h2, h3, h4⟩ := findHi K rc P A Q x hA hl K 0 A.length (by omega) (by omega) (by omega) (fun t ht => by omega) (fun t ht htl => by omega)
  have hq : (A.take q).length = q := by rw [List.length_take]; omega
  refine ⟨A.take q ++ x :: A.drop q, ?_, ?_⟩
  · have := SS.ins (A1 := A.take q) (A2 := A.drop q) (x := x) (by rw [List.take_append_drop]; exact hA) (fun y hy => by
      obtain ⟨i, hi, rfl⟩ := rd_mem hy
      rw [hq] at hi
      rw [rd_take hi]; exact h2 i hi) (fun y hy => by
      obtain ⟨i, hi, rfl⟩ := rd_mem hy
      rw [List.length_drop] at hi
      rw [rd_drop]; exact h3 _ (by omega) (by omega))
    rwa [List.take_append_drop] at this
  · rw [show ((P.length + 0 : Nat) : Int) = (P.length : Int) from rfl] at h4
    rw [h4]
    unfold slices_symMergeCmpFunc_huff_packet__b6e1_7e8b.j6
    have hl' := hl
    simp only [List.length_append, List.length_cons] at hl'
    have := moveL K rc x (P ++ A.take q) K (A.drop q) Q (by rw [List.length_drop]; omega) (by simp only [List.length_append, List.length_cons, List.length_drop, hq]; omega)
    rw [show P ++ A.take q ++ A.drop q ++ x :: Q = P ++ A ++ x :: Q from by rw [List.append_assoc P, List.take_append_drop], show ((P ++ A.take q).length + (A.drop q).length : Nat) = P.length + A.length from by simp only [List.length_append, List.length_drop, hq]; omega,
      show ((P ++ A.take q).length : Int) = ((P.length + q : Nat) : Int) from by simp only [List.length_append, hq]] at this
    rw [this]
    simp
end Go.Pu

/- The stable sort of packets: the whole. -/
set_option maxRecDepth 100000
namespace Go.Pu
open Go Go.Sl Go.Mo

theorem SS.join {A1 A2 B1 B2 M1 M2 : List PK} (h1 : SS (A1 ++ B1) M1) (h2 : SS (A2 ++ B2) M2) (hA : Srt (A1 ++ A2)) (hB : Srt (B1 ++ B2)) (h12 : ∀ x ∈ A1, ∀ y ∈ B2, x.often_ ≤ y.often_) (h21 : ∀ x ∈ B1, ∀ y ∈ A2, x.often_ < y.often_) :
    SS ((A1 ++ A2) ++ (B1 ++ B2)) (M1 ++ M2) := by
  refine ⟨Srt.append h1.1 h2.1 fun x hx y hy => ?_, ?_, fun k => ?_⟩
  · have hx' := h1.2.1.mem_iff.1 hx
    have hy' := h2.2.1.mem_iff.1 hy
    rcases List.mem_append.1 hx' with hx' | hx' <;> rcases List.mem_append.1 hy' with hy' | hy'
    · exact hA.cross x hx' y hy'
    · exact h12 x hx' y hy'
    · exact Int.le_of_lt (h21 x hx' y hy')
    · exact hB.cross x hx' y hy'
  · refine (h1.2.1.append h2.2.1).trans ?_
    simp only [List.append_assoc]
    refine List.Perm.append_left _ ?_
    rw [← List.append_assoc, ← List.append_assoc]
    exact List.Perm.append_right _ List.perm_append_comm
  · have := filter_swap (X := A2) (Y := B1) (fun x hx y hy => h21 y hy x hx) k
    simp only [List.filter_append] at this
    simp only [List.filter_append, h1.2.2 k, h2.2.2 k]
    rw [List.append_assoc, List.append_assoc, ← List.append_assoc (List.filter _ B1), ← this]
    simp only [List.append_assoc]

section
variable (K : Nat) (rc : List PK → Int → Int → Int → Res (List PK)) (P A B Q : List PK)
/-- Where the two ranges are parted. -/
theorem findC (hA : Srt A) (hB : Srt B) (hl : (P ++ A ++ B ++ Q).length < 274877906944) (mid : Nat) (hmid : 2 * mid ≤ 2 * P.length + A.length + B.length) (hmid2 : P.length ≤ mid) {md n_ p_ a_ m_ b_ : Int} (hn : n_ = ((mid + (P.length + A.length) : Nat) : Int)) (hp : p_ = ((mid + (P.length + A.length) : Nat) : Int) - 1) :
    ∀ (k s r : Nat), s ≤ r → r ≤ A.length → P.length + r ≤ mid → mid ≤ P.length + s + B.length → r - s < k → (∀ t, t < s → t < A.length → ∀ j, mid - P.length - s ≤ j → j < B.length → (rd A (t : Int)).often_ ≤ (rd B (j : Int)).often_) →
    (∀ t, r ≤ t → t < A.length → ∀ j, j < mid - P.length - r → (rd B (j : Int)).often_ < (rd A (t : Int)).often_) →
    ∃ q, s ≤ q ∧ q ≤ r ∧ (∀ t, t < q → t < A.length → ∀ j, mid - P.length - q ≤ j → j < B.length → (rd A (t : Int)).often_ ≤ (rd B (j : Int)).often_) ∧
      (∀ t, q ≤ t → t < A.length → ∀ j, j < mid - P.length - q → (rd B (j : Int)).often_ < (rd A (t : Int)).often_) ∧
      slices_symMergeCmpFunc_huff_packet__b6e1_7e8b.l10 K rc (P ++ A ++ B ++ Q) a_ m_ b_ md n_ p_ k ((P.length + s : Nat) : Int) ((P.length + r : Nat) : Int) =
        slices_symMergeCmpFunc_huff_packet__b6e1_7e8b.j11 K rc (P ++ A ++ B ++ Q) a_ m_ b_ md n_ ((P.length + q : Nat) : Int) := by
  intro k
  induction k with
  | zero => intro s r h1 h2 h3 h4 h5; omega
  | succ k ih =>
    intro s r h1 h2 h3 h4 h5 hlo hhi
    have hl' := hl
    simp only [List.length_append] at hl'
    rw [slices_symMergeCmpFunc_huff_packet__b6e1_7e8b.l10, cond_dec]
    by_cases hsr : s < r
    · rw [if_pos (by omega), halfN (by omega), lt_eq]
      obtain ⟨c, hc⟩ : ∃ c, (P.length + s + (P.length + r)) / 2 = P.length + c := ⟨(P.length + s + (P.length + r)) / 2 - P.length, by omega⟩
      have hc1 : s ≤ c := by omega
      have hc2 : c < r := by omega
      -- the place in B
      obtain ⟨j, hj⟩ : ∃ j, mid - P.length - 1 - c = j := ⟨_, rfl⟩
      have hjl : j < B.length := by omega
      have e1 : w64 (p_ - ((P.length + c : Nat) : Int)) = ((P.length + A.length + j : Nat) : Int) := by subst hp; rw [w64_id (by omega) (by omega)]; omega
      have r1 : rd (P ++ A ++ B ++ Q) ((P.length + A.length + j : Nat) : Int) = rd B (j : Int) := by
        have := rd_app (P ++ A) (B ++ Q) j
        rw [rd_app_left B Q hjl] at this
        simpa using this
      have r2 : rd (P ++ A ++ B ++ Q) ((P.length + c : Nat) : Int) = rd A (c : Int) := by
        have := rd_app P (A ++ (B ++ Q)) c
        rw [rd_app_left A (B ++ Q) (by omega)] at this
        simpa using this
      rw [hc, e1, inbN (by simp only [List.length_append]; omega), chk_true, inbN (by simp only [List.length_append]; omega), chk_true, r1, r2, pk_eta, pk_eta, cmpL, Res.bind_ok, cmpI_neg, cond_not, cond_dec]
      by_cases hlt : (rd B (j : Int)).often_ < (rd A (c : Int)).often_
      · rw [if_pos hlt]
        obtain ⟨q, q1, q2, q3⟩ := ih s c hc1 (by omega) (by omega) h4 (by omega) hlo (fun t ht htl i hi => by
          have g1 := hA.rd (i := c) (j := t) ht htl
          have g2 := hB.rd (i := i) (j := j) (by omega) hjl
          omega)
        exact ⟨q, q1, by omega, q3⟩
      · rw [if_neg hlt, lt_eq, show w64 (((P.length + c : Nat) : Int) + 1) = ((P.length + (c + 1) : Nat) : Int) from by rw [w64_id (by omega) (by omega)]; omega]
        obtain ⟨q, q1, q2, q3⟩ := ih (c + 1) r (by omega) h2 h3 (by omega) (by omega) (fun t ht htl i hi hil => by
          have g1 := hA.rd (i := t) (j := c) (by omega) (by omega)
          have g2 := hB.rd (i := j) (j := i) (by omega) hil
          omega) hhi
        exact ⟨q, by omega, q2, q3⟩
    · rw [if_neg (by omega)]
      have : s = r := by omega
      subst this
      exact ⟨s, Nat.le_refl _, Nat.le_refl _, hlo, hhi, rfl⟩
end

/-- Two sorted ranges are merged in place. -/
theorem symMerge (K : Nat) : ∀ (d : Nat) (P A B Q : List PK), Srt A → Srt B → 0 < A.length → 0 < B.length → A.length + B.length ≤ d → (P ++ A ++ B ++ Q).length < 274877906944 → (P ++ A ++ B ++ Q).length < K →
    ∃ M, SS (A ++ B) M ∧ slices_symMergeCmpFunc_huff_packet__b6e1_7e8b.r K d (P ++ A ++ B ++ Q) (P.length : Int) ((P.length + A.length : Nat) : Int) ((P.length + A.length + B.length : Nat) : Int) = .ok (P ++ M ++ Q) := by
  intro d
  induction d with
  | zero => intro P A B Q _ _ h0 h1 h; omega
  | succ d ih =>
    intro P A B Q hA hB hA0 hB0 hd hl hK
    have hl' := hl; have hK' := hK
    simp only [List.length_append] at hl' hK'
    rw [slices_symMergeCmpFunc_huff_packet__b6e1_7e8b.r, slices_symMergeCmpFunc_huff_packet__b6e1_7e8b.b, cond_beq, w64_id (by omega) (by omega)]
    by_cases hA1 : A.length = 1
    · rw [if_pos (by omega)]
      obtain ⟨x, rfl⟩ := List.length_eq_one_iff.1 hA1
      exact symLo K _ P B Q x hB (by omega) (by omega)
    rw [if_neg (by omega)]
    unfold slices_symMergeCmpFunc_huff_packet__b6e1_7e8b.j4
    rw [cond_beq, w64_id (by omega) (by omega)]
    by_cases hB1 : B.length = 1
    · rw [if_pos (by omega)]
      obtain ⟨x, rfl⟩ := List.length_eq_one_iff.1 hB1
      have := symHi K (slices_symMergeCmpFunc_huff_packet__b6e1_7e8b.r K d) P A Q x hA (by simp only [List.length_append, List.length_cons] at hl ⊢; simp only [List.length_nil] at hl; omega) (by omega)
      simpa using this
    rw [if_neg (by omega)]
    unfold slices_symMergeCmpFunc_huff_packet__b6e1_7e8b.j8
    obtain ⟨mid, hmid⟩ : ∃ mid, (P.length + (P.length + A.length + B.length)) / 2 = mid := ⟨_, rfl⟩
    rw [halfN (by omega), hmid, lt_eq, show w64 ((mid : Int) + ((P.length + A.length : Nat) : Int)) = ((mid + (P.length + A.length) : Nat) : Int) from by rw [w64_id (by omega) (by omega)]; omega, lt_eq, cond_dec]
    -- the two ways to begin
    have key : ∃ s0 r0, s0 ≤ r0 ∧ r0 ≤ A.length ∧ P.length + r0 ≤ mid ∧ mid ≤ P.length + s0 + B.length ∧ (s0 = 0 ∨ mid = P.length + s0 + B.length) ∧ (r0 = A.length ∨ P.length + r0 = mid) ∧
        (if ((P.length + A.length : Nat) : Int) > (mid : Int) then lt (w64 (((mid + (P.length + A.length) : Nat) : Int) - ((P.length + A.length + B.length : Nat) : Int))) fun start5172 => slices_symMergeCmpFunc_huff_packet__b6e1_7e8b.j9 K (slices_symMergeCmpFunc_huff_packet__b6e1_7e8b.r K d) (P ++ A ++ B ++ Q) (P.length : Int) ((P.length + A.length : Nat) : Int) ((P.length + A.length + B.length : Nat) : Int) (mid : Int) ((mid + (P.length + A.length) : Nat) : Int) start5172 (mid : Int)
          else slices_symMergeCmpFunc_huff_packet__b6e1_7e8b.j9 K (slices_symMergeCmpFunc_huff_packet__b6e1_7e8b.r K d) (P ++ A ++ B ++ Q) (P.length : Int) ((P.length + A.length : Nat) : Int) ((P.length + A.length + B.length : Nat) : Int) (mid : Int) ((mid + (P.length + A.length) : Nat) : Int) (P.length : Int) ((P.length + A.length : Nat) : Int)) =
        slices_symMergeCmpFunc_huff_packet__b6e1_7e8b.j9 K (slices_symMergeCmpFunc_huff_packet__b6e1_7e8b.r K d) (P ++ A ++ B ++ Q) (P.length : Int) ((P.length + A.length : Nat) : Int) ((P.length + A.length + B.length : Nat) : Int) (mid : Int) ((mid + (P.length + A.length) : Nat) : Int) ((P.length + s0 : Nat) : Int) ((P.length + r0 : Nat) : Int) := by
      by_cases hm : ((P.length + A.length : Nat) : Int) > (mid : Int)
      · refine ⟨mid - P.length - B.length, mid - P.length, by omega, by omega, by omega, by omega, by omega, by omega, ?_⟩
        rw [if_pos hm, lt_eq]
        congr 1
        · rw [w64_id (by omega) (by omega)]; omega
        · omega
      · refine ⟨0, A.length, by omega, by omega, by omega, by omega, by omega, by omega, ?_⟩
        rw [if_neg hm]
        rfl
    obtain ⟨s0, r0, g1, g2, g3, g4, g5, g6, g7⟩ := key
    rw [g7]
    unfold slices_symMergeCmpFunc_huff_packet__b6e1_7e8b.j9
    rw [lt_eq]
    obtain ⟨q, q1, q2, q3, q4, q5⟩ := findC K (slices_symMergeCmpFunc_huff_packet__b6e1_7e8b.r K d) P A B Q hA hB hl mid (by omega) (by omega) (md := (mid : Int)) (n_ := ((mid + (P.length + A.length) : Nat) : Int)) (p_ := w64 (((mid + (P.length + A.length) : Nat) : Int) - 1)) (a_ := (P.length : Int))
      (m_ := ((P.length + A.length : Nat) : Int)) (b_ := ((P.length + A.length + B.length : Nat) : Int)) rfl (w64_id (by omega) (by omega)) K s0 r0 g1 g2 g3 g4 (by omega) (fun t ht htl j hj hjl => by omega) (fun t ht htl j hj => by omega)
    rw [q5]
    -- the four parts
    obtain ⟨A1, A2, rfl, hA1l⟩ : ∃ A1 A2, A = A1 ++ A2 ∧ A1.length = q := ⟨A.take q, A.drop q, by simp, by rw [List.length_take]; omega⟩
    obtain ⟨B1, B2, rfl, hB1l⟩ : ∃ B1 B2, B = B1 ++ B2 ∧ B1.length = mid - P.length - q := ⟨B.take (mid - P.length - q), B.drop (mid - P.length - q), by simp, by rw [List.length_take]; omega⟩
    have h12 : ∀ x ∈ A1, ∀ y ∈ B2, x.often_ ≤ y.often_ := by
      intro x hx y hy
      obtain ⟨i, hi, rfl⟩ := rd_mem hx
      obtain ⟨j, hj, rfl⟩ := rd_mem hy
      have := q3 i (by omega) (by simp only [List.length_append]; omega) (B1.length + j) (by omega) (by simp only [List.length_append]; omega)
      rwa [rd_app_left _ _ hi, rd_app] at this
    have h21 : ∀ x ∈ B1, ∀ y ∈ A2, x.often_ < y.often_ := by
      intro x hx y hy
      obtain ⟨j, hj, rfl⟩ := rd_mem hx
      obtain ⟨i, hi, rfl⟩ := rd_mem hy
      have := q4 (A1.length + i) (by omega) (by simp only [List.length_append]; omega) j (by omega)
      rwa [rd_app_left _ _ hj, rd_app] at this
    simp only [List.length_append] at hl' hK' hd hA0 hB0 hA1 hB1 g2 g4 g5 g6 hmid
    unfold slices_symMergeCmpFunc_huff_packet__b6e1_7e8b.j11
    rw [show w64 (((mid + (P.length + (A1 ++ A2).length) : Nat) : Int) - ((P.length + q : Nat) : Int)) = ((P.length + A1.length + A2.length + B1.length : Nat) : Int) from by simp only [List.length_append]; rw [w64_id (by omega) (by omega)]; omega, lt_eq]
    -- turned round, or not
    have hrot : ∀ g : List PK → Res (List PK), (cond (decide (((P.length + q : Nat) : Int) < ((P.length + (A1 ++ A2).length : Nat) : Int)) && decide (((P.length + (A1 ++ A2).length : Nat) : Int) < ((P.length + A1.length + A2.length + B1.length : Nat) : Int)))
        ((slices_rotateCmpFunc_huff_packet__b6e1_7e8b.m K (P ++ (A1 ++ A2) ++ (B1 ++ B2) ++ Q) ((P.length + q : Nat) : Int) ((P.length + (A1 ++ A2).length : Nat) : Int) ((P.length + A1.length + A2.length + B1.length : Nat) : Int)).bind g)
        (g (P ++ (A1 ++ A2) ++ (B1 ++ B2) ++ Q))) = g (P ++ A1 ++ B1 ++ (A2 ++ B2 ++ Q)) := by
      intro g
      simp only [List.length_append]
      by_cases hA2 : A2.length = 0
      · have := List.length_eq_zero_iff.1 hA2
        subst this
        rw [show decide (((P.length + q : Nat) : Int) < ((P.length + (A1.length + ([] : List PK).length) : Nat) : Int)) = false from by simp only [List.length_nil, decide_eq_false_iff_not]; omega]
        simp
      · by_cases hB2 : B1.length = 0
        · have := List.length_eq_zero_iff.1 hB2
          subst this
          rw [show decide (((P.length + (A1.length + A2.length) : Nat) : Int) < ((P.length + A1.length + A2.length + ([] : List PK).length : Nat) : Int)) = false from by simp only [List.length_nil, decide_eq_false_iff_not]; omega]
          simp
        · rw [show decide (((P.length + q : Nat) : Int) < ((P.length + (A1.length + A2.length) : Nat) : Int)) = true from by simp only [decide_eq_true_eq]; omega, show decide (((P.length + (A1.length + A2.length) : Nat) : Int) < ((P.length + A1.length + A2.length + B1.length : Nat) : Int)) = true from by simp only [decide_eq_true_eq]; omega,
            Bool.and_self, cond_true]
          have := rotate K (P ++ A1) A2 B1 (B2 ++ Q) (by omega) (by omega) (by simp only [List.length_append]; omega) (by simp only [List.length_append]; omega) (a := ((P.length + q : Nat) : Int)) (m := ((P.length + (A1.length + A2.length) : Nat) : Int)) (b := ((P.length + A1.length + A2.length + B1.length : Nat) : Int))
            (by simp only [List.length_append]; omega) (by simp only [List.length_append]; omega) (by simp only [List.length_append])
          rw [show P ++ (A1 ++ A2) ++ (B1 ++ B2) ++ Q = P ++ A1 ++ A2 ++ B1 ++ (B2 ++ Q) from by simp, this, Res.bind_ok]
          simp
    rw [hrot]
    unfold slices_symMergeCmpFunc_huff_packet__b6e1_7e8b.j12
    -- the first half
    have hfirst : ∃ M1, SS (A1 ++ B1) M1 ∧ ∀ g : List PK → Res (List PK), (cond (decide ((P.length : Int) < ((P.length + q : Nat) : Int)) && decide (((P.length + q : Nat) : Int) < (mid : Int)))
        ((slices_symMergeCmpFunc_huff_packet__b6e1_7e8b.r K d (P ++ A1 ++ B1 ++ (A2 ++ B2 ++ Q)) (P.length : Int) ((P.length + q : Nat) : Int) (mid : Int)).bind g) (g (P ++ A1 ++ B1 ++ (A2 ++ B2 ++ Q)))) = g (P ++ M1 ++ (A2 ++ B2 ++ Q)) := by
      by_cases h0 : A1.length = 0
      · have := List.length_eq_zero_iff.1 h0
        subst this
        refine ⟨B1, by simpa using SS.refl hB.left, fun g => ?_⟩
        rw [show decide ((P.length : Int) < ((P.length + q : Nat) : Int)) = false from by simp only [decide_eq_false_iff_not]; simp only [List.length_nil] at hA1l; omega]
        simp
      · by_cases h1 : B1.length = 0
        · have := List.length_eq_zero_iff.1 h1
          subst this
          refine ⟨A1, by simpa using SS.refl hA.left, fun g => ?_⟩
          rw [show decide (((P.length + q : Nat) : Int) < (mid : Int)) = false from by simp only [decide_eq_false_iff_not]; simp only [List.length_nil] at hB1l; omega]
          simp
        · obtain ⟨M1, m1, m2⟩ := ih P A1 B1 (A2 ++ B2 ++ Q) hA.left hB.left (by omega) (by omega) (by omega) (by simp only [List.length_append]; omega) (by simp only [List.length_append]; omega)
          refine ⟨M1, m1, fun g => ?_⟩
          rw [show decide ((P.length : Int) < ((P.length + q : Nat) : Int)) = true from by simp only [decide_eq_true_eq]; omega, show decide (((P.length + q : Nat) : Int) < (mid : Int)) = true from by simp only [decide_eq_true_eq]; omega, Bool.and_self, cond_true,
            show ((P.length + q : Nat) : Int) = ((P.length + A1.length : Nat) : Int) from by rw [hA1l], show (mid : Int) = ((P.length + A1.length + B1.length : Nat) : Int) from by omega, m2]
          rfl
    obtain ⟨M1, hM1, hg1⟩ := hfirst
    rw [hg1]
    unfold slices_symMergeCmpFunc_huff_packet__b6e1_7e8b.j13
    have hM1l : M1.length = A1.length + B1.length := by have := hM1.2.1.length_eq; simpa using this
    have hsecond : ∃ M2, SS (A2 ++ B2) M2 ∧ (cond (decide ((mid : Int) < ((P.length + A1.length + A2.length + B1.length : Nat) : Int)) && decide (((P.length + A1.length + A2.length + B1.length : Nat) : Int) < ((P.length + (A1 ++ A2).length + (B1 ++ B2).length : Nat) : Int)))
        ((slices_symMergeCmpFunc_huff_packet__b6e1_7e8b.r K d (P ++ M1 ++ (A2 ++ B2 ++ Q)) (mid : Int) ((P.length + A1.length + A2.length + B1.length : Nat) : Int) ((P.length + (A1 ++ A2).length + (B1 ++ B2).length : Nat) : Int)).bind fun data => .ok data) (.ok (P ++ M1 ++ (A2 ++ B2 ++ Q)))) = .ok (P ++ (M1 ++ M2) ++ Q) := by
      simp only [List.length_append]
      by_cases h0 : A2.length = 0
      · have := List.length_eq_zero_iff.1 h0
        subst this
        refine ⟨B2, by simpa using SS.refl hB.right, ?_⟩
        rw [show decide ((mid : Int) < ((P.length + A1.length + ([] : List PK).length + B1.length : Nat) : Int)) = false from by simp only [List.length_nil, decide_eq_false_iff_not]; omega]
        simp
      · by_cases h1 : B2.length = 0
        · have := List.length_eq_zero_iff.1 h1
          subst this
          refine ⟨A2, by simpa using SS.refl hA.right, ?_⟩
          rw [show decide (((P.length + A1.length + A2.length + B1.length : Nat) : Int) < ((P.length + (A1.length + A2.length) + (B1.length + ([] : List PK).length) : Nat) : Int)) = false from by simp only [List.length_nil, decide_eq_false_iff_not]; omega]
          simp
        · obtain ⟨M2, m1, m2⟩ := ih (P ++ M1) A2 B2 Q hA.right hB.right (by omega) (by omega) (by omega) (by simp only [List.length_append]; omega) (by simp only [List.length_append]; omega)
          refine ⟨M2, m1, ?_⟩
          rw [show decide ((mid : Int) < ((P.length + A1.length + A2.length + B1.length : Nat) : Int)) = true from by simp only [decide_eq_true_eq]; omega, show decide (((P.length + A1.length + A2.length + B1.length : Nat) : Int) < ((P.length + (A1.length + A2.length) + (B1.length + B2.length) : Nat) : Int)) = true from by simp only [decide_eq_true_eq]; omega, Bool.and_self, cond_true]
          rw [show P ++ M1 ++ (A2 ++ B2 ++ Q) = P ++ M1 ++ A2 ++ B2 ++ Q from by simp, show (mid : Int) = ((P ++ M1).length : Int) from by simp only [List.length_append]; omega,
            show ((P.length + A1.length + A2.length + B1.length : Nat) : Int) = (((P ++ M1).length + A2.length : Nat) : Int) from by simp only [List.length_append]; omega,
            show ((P.length + (A1.length + A2.length) + (B1.length + B2.length) : Nat) : Int) = (((P ++ M1).length + A2.length + B2.length : Nat) : Int) from by simp only [List.length_append]; omega, m2]
          simp
    obtain ⟨M2, hM2, hg2⟩ := hsecond
    exact ⟨M1 ++ M2, SS.join hM1 hM2 hA hB h12 h21, hg2⟩
end Go.Pu

/- The stable sort of packets. -/
set_option maxRecDepth 100000
namespace Go.Pu
open Go Go.Sl Go.Mo

/-- The same elements; those that come as often as each other as they stood. -/
def SF (l l' : List PK) : Prop := l'.Perm l ∧ ∀ k : Int, l'.filter (fun x => x.often_ == k) = l.filter (fun x => x.often_ == k)
theorem SF.refl (l : List PK) : SF l l := ⟨List.Perm.refl _, fun _ => rfl⟩
theorem SF.trans {a b c : List PK} (h : SF a b) (h' : SF b c) : SF a c := ⟨h'.1.trans h.1, fun k => (h'.2 k).trans (h.2 k)⟩
theorem SF.append {a b c d : List PK} (h : SF a b) (h' : SF c d) : SF (a ++ c) (b ++ d) := ⟨h.1.append h'.1, fun k => by rw [List.filter_append, List.filter_append, h.2 k, h'.2 k]⟩
theorem SS.sf {a b : List PK} (h : SS a b) : SF a b := ⟨h.2.1, h.2.2⟩
theorem SS.of {a b : List PK} (h : SF a b) (h' : Srt b) : SS a b := ⟨h', h.1, h.2⟩
theorem SF.len {a b : List PK} (h : SF a b) : b.length = a.length := h.1.length_eq

/-- Ranges of so many, each in order. -/
inductive Bk (bs : Nat) : List PK → Prop
  | last {X : List PK} (h : Srt X) (hl : X.length ≤ bs) : Bk bs X
  | cons {X T : List PK} (h : Srt X) (hl : X.length = bs) (ht : Bk bs T) : Bk bs (X ++ T)

theorem insBlocks (K : Nat) (hK : (1099511627776 : Nat) > K) (N : Nat) (hN : N + 1 < K) : ∀ (k : Nat) (D T : List PK), D.length + T.length = N → T.length < 20 * k →
    ∃ T', SF T T' ∧ Bk 20 T' ∧ slices_stableCmpFunc_huff_packet__b6e1_8977.l1 K (N : Int) k (D ++ T) (D.length : Int) ((D.length + 20 : Nat) : Int) = slices_stableCmpFunc_huff_packet__b6e1_8977.l3 K (N : Int) K (D ++ T') 20 := by
  intro k
  induction k with
  | zero => intro D T _ h; omega
  | succ k ih =>
    intro D T h1 h2
    rw [slices_stableCmpFunc_huff_packet__b6e1_8977.l1, cond_dec]
    by_cases hc : D.length + 20 ≤ N
    · rw [if_pos (by omega)]
      obtain ⟨X, T2, rfl, hX⟩ : ∃ X T2, T = X ++ T2 ∧ X.length = 20 := ⟨T.take 20, T.drop 20, by simp, by rw [List.length_take]; omega⟩
      simp only [List.length_append] at h1 h2
      obtain ⟨X', x1, x2⟩ := insertion K D X T2 hK (by simp only [List.length_append]; omega) (a := (D.length : Int)) (b := ((D.length + 20 : Nat) : Int)) rfl (by rw [hX])
      have hX' := x1.sf.len
      obtain ⟨T', t1, t2, t3⟩ := ih (D ++ X') T2 (by simp only [List.length_append]; omega) (by omega)
      refine ⟨X' ++ T', x1.sf.append t1, .cons x1.1 (by omega) t2, ?_⟩
      rw [← List.append_assoc, x2, Res.bind_ok, lt_eq, show w64 (((D.length + 20 : Nat) : Int) + 20) = (((D ++ X').length + 20 : Nat) : Int) from by rw [w64_id (by omega) (by omega)]; simp only [List.length_append]; omega,
        show ((D.length + 20 : Nat) : Int) = ((D ++ X').length : Int) from by simp only [List.length_append]; omega, t3]
      simp
    · rw [if_neg (by omega)]
      unfold slices_stableCmpFunc_huff_packet__b6e1_8977.j2
      obtain ⟨T', t1, t2⟩ := insertion K D T [] hK (by simp only [List.length_append, List.length_nil]; omega) (a := (D.length : Int)) (b := (N : Int)) rfl (by omega)
      refine ⟨T', t1.sf, .last t1.1 (by have := t1.sf.len; omega), ?_⟩
      simp only [List.append_nil] at t2
      rw [t2]; rfl

theorem Bk.two {bs : Nat} {T : List PK} (h : Bk bs T) (hl : 2 * bs ≤ T.length) (hb : 0 < bs) : ∃ X Y T2, T = X ++ Y ++ T2 ∧ X.length = bs ∧ Y.length = bs ∧ Srt X ∧ Srt Y ∧ Bk bs T2 := by
  cases h with
  | last h hl2 => omega
  | @cons X T h hl2 ht =>
    simp only [List.length_append] at hl
    cases ht with
    | last h' hl' => exact ⟨X, T, [], by simp, hl2, by omega, h, h', .last List.Pairwise.nil (by simp)⟩
    | @cons Y T2 h' hl' ht' => exact ⟨X, Y, T2, by simp, hl2, hl', h, h', ht'⟩
theorem Bk.rest {bs : Nat} {T : List PK} (h : Bk bs T) (hl : T.length < 2 * bs) : Srt T ∧ T.length ≤ bs ∨ ∃ X Y, T = X ++ Y ∧ X.length = bs ∧ Srt X ∧ Srt Y ∧ Y.length < bs := by
  cases h with
  | last h hl2 => exact .inl ⟨h, hl2⟩
  | @cons X T h hl2 ht =>
    simp only [List.length_append] at hl
    cases ht with
    | last h' hl' => exact .inr ⟨X, T, rfl, hl2, h, h', by omega⟩
    | @cons Y T2 h' hl' ht' =>
      simp only [List.length_append] at hl; omega

theorem symMergeM (K : Nat) (P A B Q : List PK) (hA : Srt A) (hB : Srt B) (hA0 : 0 < A.length) (hB0 : 0 < B.length) (hl : (P ++ A ++ B ++ Q).length < 274877906944) (hK : (P ++ A ++ B ++ Q).length < K) {a m b : Int} (ha : a = (P.length : Int)) (hm : m = ((P.length + A.length : Nat) : Int)) (hb : b = ((P.length + A.length + B.length : Nat) : Int)) :
    ∃ M, SS (A ++ B) M ∧ slices_symMergeCmpFunc_huff_packet__b6e1_7e8b.m K (P ++ A ++ B ++ Q) a m b = .ok (P ++ M ++ Q) := by
  subst ha; subst hm; subst hb
  exact symMerge K K P A B Q hA hB hA0 hB0 (by simp only [List.length_append] at hK; omega) hl hK

theorem mergeBlocks (K : Nat) (N : Nat) (hN : N + 1 < K) (hN2 : N < 137438953472) (g : List PK → Int → Res (List PK)) (bs : Nat) (hb : 0 < bs) (hb2 : bs < N) : ∀ (k : Nat) (D T : List PK), D.length + T.length = N → T.length < 2 * bs * k → Bk bs T →
    ∃ T', SF T T' ∧ Bk (2 * bs) T' ∧ slices_stableCmpFunc_huff_packet__b6e1_8977.l4 K g (N : Int) (bs : Int) k (D ++ T) (D.length : Int) ((D.length + 2 * bs : Nat) : Int) = g (D ++ T') ((2 * bs : Nat) : Int) := by
  intro k
  induction k with
  | zero => intro D T _ h; omega
  | succ k ih =>
    intro D T h1 h2 hB
    rw [slices_stableCmpFunc_huff_packet__b6e1_8977.l4, cond_dec]
    by_cases hc : D.length + 2 * bs ≤ N
    · rw [if_pos (by omega)]
      obtain ⟨X, Y, T2, rfl, hX, hY, sX, sY, hT2⟩ := hB.two (by omega) hb
      simp only [List.length_append] at h1 h2
      obtain ⟨M, m1, m2⟩ := symMergeM K D X Y T2 sX sY (by omega) (by omega) (by simp only [List.length_append]; omega) (by simp only [List.length_append]; omega) (a := (D.length : Int)) (m := w64 ((D.length : Int) + (bs : Int))) (b := ((D.length + 2 * bs : Nat) : Int)) rfl
        (by rw [w64_id (by omega) (by omega)]; omega) (by omega)
      have hM := m1.sf.len
      simp only [List.length_append] at hM
      obtain ⟨T', t1, t2, t3⟩ := ih (D ++ M) T2 (by simp only [List.length_append]; omega) (by rw [Nat.mul_succ] at h2; omega) hT2
      refine ⟨M ++ T', m1.sf.append t1, .cons m1.1 (by omega) t2, ?_⟩
      rw [show D ++ (X ++ Y ++ T2) = D ++ X ++ Y ++ T2 from by simp, m2, Res.bind_ok, lt_eq, show w64 (2 * (bs : Int)) = ((2 * bs : Nat) : Int) from by rw [w64_id (by omega) (by omega)]; omega,
        show w64 (((D.length + 2 * bs : Nat) : Int) + ((2 * bs : Nat) : Int)) = (((D ++ M).length + 2 * bs : Nat) : Int) from by rw [w64_id (by omega) (by omega)]; simp only [List.length_append]; omega,
        show ((D.length + 2 * bs : Nat) : Int) = ((D ++ M).length : Int) from by simp only [List.length_append]; omega, t3]
      simp
    · rw [if_neg (by omega)]
      unfold slices_stableCmpFunc_huff_packet__b6e1_8977.j5
      rw [show w64 ((D.length : Int) + (bs : Int)) = ((D.length + bs : Nat) : Int) from by rw [w64_id (by omega) (by omega)]; rfl, lt_eq, cond_dec, show w64 ((bs : Int) * 2) = ((2 * bs : Nat) : Int) from by rw [w64_id (by omega) (by omega)]; omega]
      rcases hB.rest (by omega) with ⟨s1, s2⟩ | ⟨X, Y, rfl, hX, sX, sY, hY⟩
      · rw [if_neg (by omega), lt_eq]
        exact ⟨T, SF.refl _, .last s1 (by omega), rfl⟩
      · simp only [List.length_append] at h1 h2
        by_cases hY0 : Y.length = 0
        · rw [if_neg (by omega), lt_eq]
          have := List.length_eq_zero_iff.1 hY0
          subst this
          exact ⟨X ++ [], SF.refl _, .last (by simpa using sX) (by simp; omega), rfl⟩
        · rw [if_pos (by omega)]
          obtain ⟨M, m1, m2⟩ := symMergeM K D X Y [] sX sY (by omega) (by omega) (by simp only [List.length_append, List.length_nil]; omega) (by simp only [List.length_append, List.length_nil]; omega) (a := (D.length : Int)) (m := ((D.length + bs : Nat) : Int)) (b := (N : Int)) rfl (by omega) (by omega)
          refine ⟨M, m1.sf, .last m1.1 (by have := m1.sf.len; simp only [List.length_append] at this; omega), ?_⟩
          simp only [List.append_nil] at m2
          rw [← List.append_assoc, m2, Res.bind_ok, lt_eq]

theorem Bk.srt {bs : Nat} {T : List PK} (h : Bk bs T) (hl : T.length ≤ bs) : Srt T := by
  cases h with
  | last h _ => exact h
  | @cons X T h hl2 ht =>
    simp only [List.length_append] at hl
    have : T = [] := List.length_eq_zero_iff.1 (by omega)
    subst this
    simpa using h

theorem mergeAll (K : Nat) (N : Nat) (hN : N + 1 < K) (hN2 : N < 137438953472) : ∀ (k : Nat) (bs : Nat) (T : List PK), 0 < bs → T.length = N → N < bs + k → Bk bs T →
    ∃ T', SS T T' ∧ slices_stableCmpFunc_huff_packet__b6e1_8977.l3 K (N : Int) (k + 1) T (bs : Int) = .ok T' := by
  intro k
  induction k with
  | zero =>
    intro bs T h0 h1 h2 hB
    refine ⟨T, SS.refl (hB.srt (by omega)), ?_⟩
    rw [slices_stableCmpFunc_huff_packet__b6e1_8977.l3, cond_dec, if_neg (by omega)]
  | succ k ih =>
    intro bs T h0 h1 h2 hB
    rw [slices_stableCmpFunc_huff_packet__b6e1_8977.l3, cond_dec]
    by_cases hc : bs < N
    · rw [if_pos (by omega), show w64 (2 * (bs : Int)) = ((2 * bs : Nat) : Int) from by rw [w64_id (by omega) (by omega)]; omega, lt_eq]
      have hmul : T.length < 2 * bs * K := by
        have : 1 * K ≤ 2 * bs * K := Nat.mul_le_mul_right K (by omega)
        omega
      obtain ⟨T1, t1, t2, t3⟩ := mergeBlocks K N hN hN2 (slices_stableCmpFunc_huff_packet__b6e1_8977.l3 K (N : Int) (k + 1)) bs h0 hc K [] T (by simpa using h1) hmul hB
      obtain ⟨T', s1, s2⟩ := ih (2 * bs) T1 (by omega) (by rw [t1.len]; exact h1) (by omega) t2
      refine ⟨T', SS.of (t1.trans s1.sf) s1.1, ?_⟩
      rw [← s2]
      simpa using t3
    · rw [if_neg (by omega)]
      exact ⟨T, SS.refl (hB.srt (by omega)), rfl⟩

/-- The stable sort. -/
theorem sortStable (K : Nat) (l : List PK) (hK : (1099511627776 : Nat) > K) (hl : l.length + 1 < K) (hl2 : l.length < 137438953472) :
    ∃ l', SS l l' ∧ slices_SortStableFunc___huff_packet_huff_packet__b6e1_f289.m K l = .ok l' := by
  obtain ⟨k, rfl⟩ : ∃ m, K = m + 1 := ⟨K - 1, by omega⟩
  unfold slices_SortStableFunc___huff_packet_huff_packet__b6e1_f289.m slices_stableCmpFunc_huff_packet__b6e1_8977.m
  obtain ⟨T, t1, t2, t3⟩ := insBlocks (k + 1) hK l.length hl (k + 1) [] l (by simp) (by omega)
  obtain ⟨l', s1, s2⟩ := mergeAll (k + 1) l.length hl hl2 k 20 T (by decide) t1.len (by omega) t2
  refine ⟨l', SS.of (t1.trans s1.sf) s1.1, ?_⟩
  have t3' : slices_stableCmpFunc_huff_packet__b6e1_8977.l1 (k + 1) (l.length : Int) (k + 1) l 0 20 = slices_stableCmpFunc_huff_packet__b6e1_8977.l3 (k + 1) (l.length : Int) (k + 1) T 20 := by simpa using t3
  rw [t3', show (20 : Int) = ((20 : Nat) : Int) from rfl, s2]
  rfl
theorem sortSame : @slices_SortStableFunc___huff_packet_huff_packet__b6e1_f734.m = @slices_SortStableFunc___huff_packet_huff_packet__b6e1_f289.m := by kernel_rfl
end Go.Pu

/- Packets are joined, paired, merged. -/
set_option maxRecDepth 100000
namespace Go.Pu
open Go Go.Sl Go.Mo

theorem growI (K : Nat) (n : Nat) (h : n < 1099511627776) : slices_Grow___int_int__f5f7.m K (n : Int) = .ok () := by
  unfold slices_Grow___int_int__f5f7.m
  rw [cond_dec, if_neg (by omega), lt_eq, show w64 ((n : Int) - w64 (0 - 0)) = (n : Int) from by rw [w64_id (x := 0 - 0) (by omega) (by omega), w64_id (by omega) (by omega)]; omega, cond_dec]
  by_cases h0 : (n : Int) > 0
  · rw [if_pos h0, show (decide ((0 : Int) < (n : Int)) && room (Int.toNat (n : Int)) 8) = true from by rw [Bool.and_eq_true, decide_eq_true_eq]; exact ⟨h0, room_of (by rw [Int.toNat_natCast]; omega)⟩, chk_true]
  · rw [if_neg h0]
theorem growP (K : Nat) (n : Nat) (h : n < 1099511627776) : slices_Grow___huff_packet_huff_packet__8ef0.m K (n : Int) = .ok () := by
  unfold slices_Grow___huff_packet_huff_packet__8ef0.m
  rw [cond_dec, if_neg (by omega), lt_eq, show w64 ((n : Int) - w64 (0 - 0)) = (n : Int) from by rw [w64_id (x := 0 - 0) (by omega) (by omega), w64_id (by omega) (by omega)]; omega, cond_dec]
  by_cases h0 : (n : Int) > 0
  · rw [if_pos h0, show (decide ((0 : Int) < (n : Int)) && room (Int.toNat (n : Int)) 32) = true from by rw [Bool.and_eq_true, decide_eq_true_eq]; exact ⟨h0, room_of (by rw [Int.toNat_natCast]; omega)⟩, chk_true]
  · rw [if_neg h0]

theorem concatI (K : Nat) (a b : List Int) (hK : 3 ≤ K) (h : a.length + b.length < 1099511627776) : slices_Concat___int_int_.m K [a, b] = .ok (a ++ b) := by
  obtain ⟨k, rfl⟩ : ∃ m, K = m + 3 := ⟨K - 3, by omega⟩
  have i0 : inb (0 : Int) ([a, b] : List (List Int)).length = true := rfl
  have i1 : inb (1 : Int) ([a, b] : List (List Int)).length = true := rfl
  have r0 : rd [a, b] (0 : Int) = a := rfl
  have r1 : rd [a, b] (1 : Int) = b := rfl
  have w1 : w64 ((0 : Int) + 1) = 1 := rfl
  have w2 : w64 ((1 : Int) + 1) = 2 := rfl
  have c0 : decide ((0 : Int) < (([a, b] : List (List Int)).length : Int)) = true := rfl
  have c1 : decide ((1 : Int) < (([a, b] : List (List Int)).length : Int)) = true := rfl
  have c2 : decide ((2 : Int) < (([a, b] : List (List Int)).length : Int)) = false := rfl
  have s1 : w64 (0 + (a.length : Int)) = (a.length : Int) := by rw [w64_id (by omega) (by omega)]; omega
  have s2 : w64 ((a.length : Int) + (b.length : Int)) = ((a.length + b.length : Nat) : Int) := by rw [w64_id (by omega) (by omega)]; omega
  unfold slices_Concat___int_int_.m
  simp only [slices_Concat___int_int_.l1, c0, c1, c2, cond_true, cond_false, i0, i1, chk_true, r0, r1, s1, s2, lt_eq, w1, w2]
  rw [cond_dec, if_neg (by omega), cond_dec, if_neg (by omega)]
  unfold slices_Concat___int_int_.j2
  rw [growI _ _ (by omega), Res.bind_ok]
  simp only [slices_Concat___int_int_.l3, c0, c1, c2, cond_true, cond_false, i0, i1, chk_true, r0, r1, lt_eq, w1, w2]
  rw [room_of (by simp only [List.length_nil]; omega), chk_true, room_of (by simp only [List.nil_append]; omega), chk_true]
  simp
theorem concatP (K : Nat) (a b : List PK) (hK : 3 ≤ K) (h : a.length + b.length < 1099511627776) : slices_Concat___huff_packet_huff_packet_.m K [a, b] = .ok (a ++ b) := by
  obtain ⟨k, rfl⟩ : ∃ m, K = m + 3 := ⟨K - 3, by omega⟩
  have i0 : inb (0 : Int) ([a, b] : List (List PK)).length = true := rfl
  have i1 : inb (1 : Int) ([a, b] : List (List PK)).length = true := rfl
  have r0 : rd [a, b] (0 : Int) = a := rfl
  have r1 : rd [a, b] (1 : Int) = b := rfl
  have w1 : w64 ((0 : Int) + 1) = 1 := rfl
  have w2 : w64 ((1 : Int) + 1) = 2 := rfl
  have c0 : decide ((0 : Int) < (([a, b] : List (List PK)).length : Int)) = true := rfl
  have c1 : decide ((1 : Int) < (([a, b] : List (List PK)).length : Int)) = true := rfl
  have c2 : decide ((2 : Int) < (([a, b] : List (List PK)).length : Int)) = false := rfl
  have s1 : w64 (0 + (a.length : Int)) = (a.length : Int) := by rw [w64_id (by omega) (by omega)]; omega
  have s2 : w64 ((a.length : Int) + (b.length : Int)) = ((a.length + b.length : Nat) : Int) := by rw [w64_id (by omega) (by omega)]; omega
  unfold slices_Concat___huff_packet_huff_packet_.m
  simp only [slices_Concat___huff_packet_huff_packet_.l1, c0, c1, c2, cond_true, cond_false, i0, i1, chk_true, r0, r1, s1, s2, lt_eq, w1, w2]
  rw [cond_dec, if_neg (by omega), cond_dec, if_neg (by omega)]
  unfold slices_Concat___huff_packet_huff_packet_.j2
  rw [growP _ _ (by omega), Res.bind_ok]
  simp only [slices_Concat___huff_packet_huff_packet_.l3, c0, c1, c2, cond_true, cond_false, i0, i1, chk_true, r0, r1, lt_eq, w1, w2]
  rw [room_of (by simp only [List.length_nil]; omega), chk_true, room_of (by simp only [List.nil_append]; omega), chk_true]
  simp

/-- Packets of two each. -/
def prs : List PK → List PK
  | x :: y :: r => ⟨x.often_ + y.often_, x.symbols_ ++ y.symbols_⟩ :: prs r
  | _ => []
theorem prs_len : ∀ l : List PK, (prs l).length = l.length / 2
  | [] => rfl
  | [_] => by simp [prs]
  | x :: y :: r => by simp only [prs, List.length_cons, prs_len r]; omega

theorem pairsLoop (K : Nat) (hK : 3 ≤ K) (N : Nat) (hN : N < 1073741824) : ∀ (R D O : List PK) (k : Nat), (D ++ R).length = N → 2 * O.length ≤ D.length → R.length < 2 * k → (∀ p ∈ R, 0 ≤ p.often_ ∧ p.often_ < 4611686018427387904 ∧ p.symbols_.length < 1073741824) →
    huff_pairs.l1 K (D ++ R) k O (D.length : Int) = .ok (O ++ prs R)
  | [], D, O, k, h1, h3, h2, hb => by
    obtain ⟨k, rfl⟩ : ∃ m, k = m + 1 := ⟨k - 1, by simp at h2; omega⟩
    simp only [List.length_append, List.length_nil] at h1
    rw [huff_pairs.l1, w64_id (by omega) (by omega), cond_dec, if_neg (by simp only [List.append_nil]; omega)]
    simp [prs]
  | [x], D, O, k, h1, h3, h2, hb => by
    obtain ⟨k, rfl⟩ : ∃ m, k = m + 1 := ⟨k - 1, by simp at h2; omega⟩
    simp only [List.length_append, List.length_cons, List.length_nil] at h1
    rw [huff_pairs.l1, w64_id (by omega) (by omega), cond_dec, if_neg (by simp only [List.length_append, List.length_cons, List.length_nil]; omega)]
    simp [prs]
  | x :: y :: R, D, O, k, h1, h3, h2, hb => by
    obtain ⟨k, rfl⟩ : ∃ m, k = m + 1 := ⟨k - 1, by simp at h2; omega⟩
    have h1' := h1
    simp only [List.length_append, List.length_cons] at h1 h2
    have hx := hb x (by simp)
    have hy := hb y (by simp)
    have e1 : w64 ((D.length : Int) + 1) = ((D ++ [x]).length : Int) := by rw [w64_id (by omega) (by omega)]; simp
    have d1 : D ++ x :: y :: R = (D ++ [x]) ++ y :: R := by simp
    have ry : rd (D ++ x :: y :: R) ((D ++ [x]).length : Int) = y := by rw [d1]; exact rd_at _ _ _ rfl
    have by_ : inb ((D ++ [x]).length : Int) (D ++ x :: y :: R).length = true := by rw [d1]; exact inb_at _ _ _ rfl
    rw [huff_pairs.l1, e1, cond_dec, if_pos (by simp only [List.length_append, List.length_cons, List.length_nil]; omega), inb_at _ _ _ rfl, chk_true, by_, chk_true, rd_at _ _ _ rfl, ry, concatI K _ _ hK (by omega), Res.bind_ok,
      room_of (by simp only [List.length_cons, List.length_nil]; omega), chk_true, lt_eq, w64_id (x := x.often_ + y.often_) (by omega) (by omega), lt_eq,
      show w64 ((D.length : Int) + 2) = ((D ++ [x, y]).length : Int) from by rw [w64_id (by omega) (by omega)]; simp]
    have := pairsLoop K hK N hN R (D ++ [x, y]) (O ++ [⟨x.often_ + y.often_, x.symbols_ ++ y.symbols_⟩]) k (by simp only [List.length_append, List.length_cons, List.length_nil]; omega)
      (by simp only [List.length_append, List.length_cons, List.length_nil]; omega) (by omega) (fun p hp => hb p (by simp [hp]))
    rw [show D ++ x :: y :: R = D ++ [x, y] ++ R from by simp, this]
    simp [prs]
theorem progPairs (K : Nat) (R : List PK) (hK : 3 ≤ K) (hl : R.length < 1073741824) (hl2 : R.length < 2 * K) (hb : ∀ p ∈ R, 0 ≤ p.often_ ∧ p.often_ < 4611686018427387904 ∧ p.symbols_.length < 1073741824) : huff_pairs.m K R = .ok (prs R) := by
  have := pairsLoop K hK R.length hl R [] [] K (by simp) (by simp) hl2 hb
  simpa [huff_pairs.m] using this
theorem progMerged (K : Nat) (a b : List PK) (hK : 3 ≤ K) (hK2 : (1099511627776 : Nat) > K) (hl : a.length + b.length + 1 < K) (hl2 : a.length + b.length < 137438953472) : ∃ R, SS (a ++ b) R ∧ huff_merged.m K a b = .ok R := by
  obtain ⟨R, h1, h2⟩ := sortStable K (a ++ b) hK2 (by simp only [List.length_append]; omega) (by simp only [List.length_append]; omega)
  refine ⟨R, h1, ?_⟩
  unfold huff_merged.m
  rw [concatP K a b hK (by omega), Res.bind_ok, sortSame, h2]
  rfl

/-! ## Rows -/
theorem prs_srt : ∀ {l : List PK}, Srt l → Srt (prs l)
  | [], _ => List.Pairwise.nil
  | [_], _ => by simp [prs, Srt]
  | x :: y :: r, h => by
    have h1 := List.pairwise_cons.1 h
    have h2 := List.pairwise_cons.1 h1.2
    refine List.pairwise_cons.2 ⟨fun p hp => ?_, prs_srt (l := r) h2.2⟩
    have : ∀ {r : List PK}, ∀ p ∈ prs r, ∃ u ∈ r, ∃ v ∈ r, p.often_ = u.often_ + v.often_ := by
      intro r
      induction r using prs.induct with
      | case1 u v r ih =>
        intro p hp
        simp only [prs, List.mem_cons] at hp
        rcases hp with rfl | hp
        · exact ⟨u, by simp, v, by simp, rfl⟩
        · obtain ⟨a, ha, b, hb, h⟩ := ih p hp
          exact ⟨a, by simp [ha], b, by simp [hb], h⟩
      | case2 r hr =>
        intro p hp
        unfold prs at hp
        split at hp
        · rename_i a b c; exact (hr a b c rfl).elim
        · cases hp
    obtain ⟨u, hu, v, hv, he⟩ := this p hp
    have g1 := h1.1 u (by simp [hu])
    have g2 := h2.1 v hv
    show x.often_ + y.often_ ≤ p.often_
    omega
/-- Rows in order are told by what comes as often. -/
theorem srt_uniq : ∀ {a b : List PK}, Srt a → Srt b → (∀ k : Int, a.filter (fun x => x.often_ == k) = b.filter (fun x => x.often_ == k)) → a = b
  | [], [], _, _, _ => rfl
  | [], y :: b, _, _, h => by have := h y.often_; simp at this
  | x :: a, [], _, _, h => by have := h x.often_; simp at this
  | x :: a, y :: b, ha, hb, h => by
    have hx := List.pairwise_cons.1 ha
    have hy := List.pairwise_cons.1 hb
    have hle : ∀ {x y : PK} {a b : List PK}, (∀ z ∈ a, x.often_ ≤ z.often_) → (x :: a).filter (fun z => z.often_ == y.often_) = (y :: b).filter (fun z => z.often_ == y.often_) → x.often_ ≤ y.often_ := by
      intro x y a b hx h
      have hm : y ∈ (x :: a).filter (fun z => z.often_ == y.often_) := by rw [h]; simp
      rw [List.mem_filter] at hm
      rcases List.mem_cons.1 hm.1 with h1 | h1
      · rw [h1]; exact Int.le_refl _
      · exact hx y h1
    have e : x.often_ = y.often_ := Int.le_antisymm (hle hx.1 (h y.often_)) (hle hy.1 (h x.often_).symm)
    have h0 := h x.often_
    simp only [List.filter_cons, beq_self_eq_true, if_true, ← e] at h0
    simp only [List.cons.injEq] at h0
    rw [h0.1, srt_uniq hx.2 hy.2 fun k => ?_]
    have hk := h k
    simp only [List.filter_cons, e] at hk
    by_cases hkk : (y.often_ == k) = true
    · simp only [hkk, if_true, List.cons.injEq] at hk; exact hk.2
    · simp only [hkk] at hk; simpa using hk
theorem filter_comm {α : Type} (p q : α → Bool) (l : List α) : (l.filter p).filter q = (l.filter q).filter p := by
  simp only [List.filter_filter]
  congr 1; funext x; rw [Bool.and_comm]
/-- Of what is merged, a kind of packets stands as it stood. -/
theorem SS.kind {a b R : List PK} (h : SS (a ++ b) R) (p : PK → Bool) (ha : Srt a) (h1 : ∀ x ∈ a, p x = true) (h2 : ∀ x ∈ b, p x = false) : R.filter p = a := by
  refine srt_uniq (h.1.sublist (List.filter_sublist)) ha fun k => ?_
  have e : b.filter p = [] := List.filter_eq_nil_iff.2 (fun x hx => by simp [h2 x hx])
  rw [filter_comm, h.2.2 k, filter_comm, List.filter_append, List.filter_eq_self.2 h1, e, List.append_nil]
theorem SS.kind2 {a b R : List PK} (h : SS (a ++ b) R) (p : PK → Bool) (hb : Srt b) (h1 : ∀ x ∈ a, p x = false) (h2 : ∀ x ∈ b, p x = true) : R.filter p = b := by
  refine srt_uniq (h.1.sublist (List.filter_sublist)) hb fun k => ?_
  have e : a.filter p = [] := List.filter_eq_nil_iff.2 (fun x hx => by simp [h1 x hx])
  rw [filter_comm, h.2.2 k, filter_comm, List.filter_append, List.filter_eq_self.2 h2, e, List.nil_append]
end Go.Pu

/- What the rows of packets tell: how long each symbol's code is; the sum of a code's parts. -/
set_option maxRecDepth 100000
namespace Go.Pu
open Go Go.Sl Go.Mo

def isOne (p : PK) : Bool := p.symbols_.length == 1
def symsP (l : List PK) : List Int := l.flatMap (·.symbols_)
structure Rows (X : List PK) (R : Nat → List PK) : Prop where
  zero : R 0 = X
  succ : ∀ t, SS (X ++ prs (R t)) (R (t + 1))
  one : ∀ p ∈ X, p.symbols_.length = 1
  pos : ∀ p ∈ X, 0 < p.often_
  srt : Srt X

theorem prs_mem : ∀ {r : List PK} {p : PK}, p ∈ prs r → ∃ u ∈ r, ∃ v ∈ r, p.often_ = u.often_ + v.often_ ∧ p.symbols_ = u.symbols_ ++ v.symbols_ := by
  intro r
  induction r using prs.induct with
  | case1 u v r ih =>
    intro p hp
    simp only [prs, List.mem_cons] at hp
    rcases hp with rfl | hp
    · exact ⟨u, by simp, v, by simp, rfl, rfl⟩
    · obtain ⟨a, ha, b, hb, h⟩ := ih hp
      exact ⟨a, by simp [ha], b, by simp [hb], h⟩
  | case2 r hr =>
    intro p hp
    unfold prs at hp
    split at hp
    · rename_i a b c; exact (hr a b c rfl).elim
    · cases hp
theorem prs_app : ∀ {T : List PK} (U : List PK), T.length % 2 = 0 → prs (T ++ U) = prs T ++ prs U
  | [], U, _ => by simp [prs]
  | [x], U, h => by simp at h
  | x :: y :: T, U, h => by
    simp only [List.cons_append, prs]
    rw [prs_app U (by simp only [List.length_cons] at h; omega)]
theorem prs_take (l : List PK) (b : Nat) : (prs l).take b = prs (l.take (2 * b)) := by
  induction l using prs.induct generalizing b with
  | case1 u v r ih =>
    cases b with
    | zero => simp [prs]
    | succ b => rw [show 2 * (b + 1) = 2 * b + 1 + 1 from by omega]; simp only [prs, List.take_succ_cons, ih]
  | case2 r hr =>
    have h1 : prs r = [] := by
      unfold prs
      split
      · rename_i a b c; exact (hr a b c rfl).elim
      · rfl
    have h2 : prs (r.take (2 * b)) = [] := by
      have := prs_len (r.take (2 * b))
      have h3 := prs_len r
      rw [h1] at h3
      simp only [List.length_nil] at h3
      have h4 : (r.take (2 * b)).length ≤ r.length := (List.take_sublist _ _).length_le
      exact List.length_eq_zero_iff.1 (by omega)
    rw [h1, h2]; simp
theorem symsP_prs : ∀ {l : List PK}, l.length % 2 = 0 → symsP (prs l) = symsP l
  | [], _ => rfl
  | [x], h => by simp at h
  | x :: y :: r, h => by
    have := symsP_prs (l := r) (by simp only [List.length_cons] at h; omega)
    simp only [symsP] at this
    simp only [symsP, prs, List.flatMap_cons, this, List.append_assoc]

section
variable {X : List PK} {R : Nat → List PK} (H : Rows X R)
include H
theorem Rows.sorted : ∀ t, Srt (R t)
  | 0 => by rw [H.zero]; exact H.srt
  | t + 1 => (H.succ t).1
theorem Rows.good : ∀ t, ∀ p ∈ R t, 0 < p.often_ ∧ 1 ≤ p.symbols_.length
  | 0, p, hp => by rw [H.zero] at hp; exact ⟨H.pos p hp, by rw [H.one p hp]; exact Nat.le_refl _⟩
  | t + 1, p, hp => by
    rcases List.mem_append.1 ((H.succ t).2.1.mem_iff.1 hp) with h | h
    · exact ⟨H.pos p h, by rw [H.one p h]; exact Nat.le_refl _⟩
    · obtain ⟨u, hu, v, hv, h1, h2⟩ := prs_mem h
      have := Rows.good t u hu
      have := Rows.good t v hv
      exact ⟨by omega, by rw [h2, List.length_append]; omega⟩
theorem Rows.two (t : Nat) : ∀ p ∈ prs (R t), isOne p = false := by
  intro p hp
  obtain ⟨u, hu, v, hv, _, h2⟩ := prs_mem hp
  have := (H.good t u hu).2
  have := (H.good t v hv).2
  simp only [isOne, h2, List.length_append, beq_eq_false_iff_ne]; omega
theorem Rows.ones : ∀ p ∈ X, isOne p = true := fun p hp => by simp [isOne, H.one p hp]
theorem Rows.singles (t : Nat) : (R (t + 1)).filter isOne = X := (H.succ t).kind isOne H.srt H.ones (H.two t)
theorem Rows.pairs (t : Nat) : (R (t + 1)).filter (fun p => !isOne p) = prs (R t) :=
  (H.succ t).kind2 (fun p => !isOne p) (prs_srt (H.sorted t)) (fun p hp => by simp [H.ones p hp]) (fun p hp => by simp [H.two t p hp])
theorem Rows.len (t : Nat) : (R (t + 1)).length = X.length + (R t).length / 2 := by
  rw [(H.succ t).2.1.length_eq, List.length_append, prs_len]
end

theorem take_filter {α : Type} (p : α → Bool) (l : List α) (m : Nat) : (l.take m).filter p = (l.filter p).take ((l.take m).filter p).length ∧ (l.drop m).filter p = (l.filter p).drop ((l.take m).filter p).length := by
  have h : l.filter p = (l.take m).filter p ++ (l.drop m).filter p := by rw [← List.filter_append, List.take_append_drop]
  constructor
  · conv => rhs; rw [h]
    simp
  · conv => rhs; rw [h]
    simp

/-- How many single ones, how many pairs are among the first. -/
def nOne (R : Nat → List PK) (t m : Nat) : Nat := (((R t).take m).filter isOne).length
def nTwo (R : Nat → List PK) (t m : Nat) : Nat := (((R t).take m).filter fun p => !isOne p).length
/-- .. and so on, row by row. -/
def lev (R : Nat → List PK) : Nat → Nat → List Nat
  | 0, m => [m]
  | t + 1, m => nOne R (t + 1) m :: lev R t (2 * nTwo R (t + 1) m)
theorem lev_len (R : Nat → List PK) : ∀ t m, (lev R t m).length = t + 1
  | 0, _ => rfl
  | t + 1, m => by simp [lev, lev_len R t]
theorem filter_two {α : Type} (p : α → Bool) (l : List α) : (l.filter p).length + (l.filter fun x => !p x).length = l.length := by
  have := (List.filter_append_perm p l).length_eq
  simpa using this
theorem n_sum (R : Nat → List PK) (t m : Nat) (h : m ≤ (R t).length) : nOne R t m + nTwo R t m = m := by
  have := filter_two isOne ((R t).take m)
  rw [List.length_take, Nat.min_eq_left h] at this
  exact this

section
variable {X : List PK} {R : Nat → List PK} (H : Rows X R)
include H
theorem Rows.takeOne (t m : Nat) : ((R (t + 1)).take m).filter isOne = X.take (nOne R (t + 1) m) := by
  have := (take_filter isOne (R (t + 1)) m).1
  rw [H.singles t] at this
  exact this
theorem Rows.takeTwo (t m : Nat) : ((R (t + 1)).take m).filter (fun p => !isOne p) = (prs (R t)).take (nTwo R (t + 1) m) := by
  have := (take_filter (fun p => !isOne p) (R (t + 1)) m).1
  rw [H.pairs t] at this
  exact this
theorem Rows.twoLe (t m : Nat) : 2 * nTwo R (t + 1) m ≤ (R t).length := by
  have h := congrArg List.length (H.pairs t)
  have h2 : nTwo R (t + 1) m ≤ ((R (t + 1)).filter fun p => !isOne p).length := by
    have := (List.take_sublist m (R (t + 1))).filter (fun p => !isOne p)
    exact this.length_le
  rw [h, prs_len] at h2
  omega
theorem Rows.oneLe (t m : Nat) : nOne R (t + 1) m ≤ X.length := by
  have h := congrArg List.length (H.singles t)
  have := ((List.take_sublist m (R (t + 1))).filter isOne).length_le
  rw [h] at this
  exact this
/-- How often a symbol comes. -/
theorem Rows.count (s : Int) : ∀ t m, m ≤ (R t).length → (symsP ((R t).take m)).count s = ((lev R t m).map fun a => (symsP (X.take a)).count s).sum
  | 0, m, h => by simp [lev, H.zero]
  | t + 1, m, h => by
    have hp := (List.filter_append_perm isOne ((R (t + 1)).take m)).flatMap_right (·.symbols_)
    have h1 := hp.count_eq s
    rw [List.flatMap_append, List.count_append, H.takeOne, H.takeTwo, prs_take] at h1
    have h2 := H.twoLe t m
    have h3 : ((R t).take (2 * nTwo R (t + 1) m)).length = 2 * nTwo R (t + 1) m := by rw [List.length_take, Nat.min_eq_left h2]
    have h4 := symsP_prs (l := (R t).take (2 * nTwo R (t + 1) m)) (by rw [h3]; omega)
    have h5 := Rows.count s t (2 * nTwo R (t + 1) m) h2
    simp only [symsP] at h4 h5 ⊢
    rw [← h1, h4, h5]
    simp [lev]
/-- The rows tell no less ahead. -/
theorem Rows.mono (t m : Nat) : ∀ a, (lev R t (2 * nTwo R (t + 1) m)).head? = some a → a ≤ nOne R (t + 1) m := by
  intro a ha
  obtain ⟨b, hb⟩ : ∃ b, nTwo R (t + 1) m = b := ⟨_, rfl⟩
  have hbl := H.twoLe t m
  have hTwo := H.takeTwo t m
  have hOne := H.takeOne t m
  rw [hb] at ha hbl hTwo
  -- the single ones among the first 2b
  have hal : ((R t).take (2 * b)).filter isOne = X.take a ∧ a ≤ X.length := by
    cases t with
    | zero =>
      simp only [lev, List.head?_cons, Option.some.injEq] at ha
      subst ha
      rw [H.zero] at hbl ⊢
      exact ⟨List.filter_eq_self.2 fun p hp => H.ones p (List.mem_of_mem_take hp), hbl⟩
    | succ t =>
      simp only [lev, List.head?_cons, Option.some.injEq] at ha
      subst ha
      exact ⟨H.takeOne t (2 * b), H.oneLe t (2 * b)⟩
  refine Nat.le_of_not_lt fun hlt => ?_
  obtain ⟨c, hc⟩ : ∃ c, nOne R (t + 1) m = c := ⟨_, rfl⟩
  rw [hc] at hlt hOne
  have hcx : c < X.length := by omega
  -- the first 2b: the last two
  have hb0 : 0 < b := by
    refine Nat.pos_of_ne_zero fun h0 => ?_
    subst h0
    have := congrArg List.length hal.1
    simp at this; omega
  obtain ⟨T, u, v, hT, hTl⟩ : ∃ T u v, (R t).take (2 * b) = T ++ [u, v] ∧ T.length = 2 * (b - 1) := by
    have hl : ((R t).take (2 * b)).length = 2 * b := by rw [List.length_take, Nat.min_eq_left hbl]
    rcases snocCases ((R t).take (2 * b)) with h | ⟨T1, v, h⟩
    · rw [h] at hl; simp at hl; omega
    · rcases snocCases T1 with h' | ⟨T, u, h'⟩
      · rw [h, h'] at hl; simp at hl; omega
      · refine ⟨T, u, v, by rw [h, h']; simp, ?_⟩
        rw [h, h'] at hl; simp only [List.length_append, List.length_cons, List.length_nil] at hl; omega
  have hq : (⟨u.often_ + v.often_, u.symbols_ ++ v.symbols_⟩ : PK) ∈ (R (t + 1)).take m := by
    have : (⟨u.often_ + v.often_, u.symbols_ ++ v.symbols_⟩ : PK) ∈ ((R (t + 1)).take m).filter (fun p => !isOne p) := by
      rw [hTwo, prs_take, hT, prs_app _ (by omega)]
      simp [prs]
    exact (List.mem_filter.1 this).1
  have hx : X[c] ∈ (R (t + 1)).drop m := by
    have h1 := (take_filter isOne (R (t + 1)) m).2
    rw [H.singles t, show (((R (t + 1)).take m).filter isOne).length = c from hc] at h1
    have : X[c] ∈ ((R (t + 1)).drop m).filter isOne := by
      rw [h1, List.drop_eq_getElem_cons hcx]; exact List.mem_cons_self ..
    exact (List.mem_filter.1 this).1
  have hs := H.sorted (t + 1)
  rw [← List.take_append_drop m (R (t + 1))] at hs
  have g1 := hs.cross _ hq _ hx
  have hx2 : X[c] ∈ T ++ [u, v] := by
    rw [← hT]
    have : X[c] ∈ ((R t).take (2 * b)).filter isOne := by
      rw [hal.1, List.mem_take_iff_getElem]
      exact ⟨c, by omega, rfl⟩
    exact (List.mem_filter.1 this).1
  have hs2 := (H.sorted t).sublist (List.take_sublist (2 * b) (R t))
  rw [hT] at hs2
  have hu : 0 < u.often_ := (H.good t u (List.mem_of_mem_take (by rw [hT]; simp : u ∈ (R t).take (2 * b)))).1
  have g2 : X[c].often_ ≤ v.often_ := by
    rcases List.mem_append.1 hx2 with h | h
    · exact Srt.cross (show Srt (T ++ [u, v]) from hs2) _ h v (by simp)
    · simp at h
      rcases h with h | h
      · rw [h]; exact Srt.cross (A := [u]) (B := [v]) (Srt.right (A := T) hs2) u (by simp) v (by simp)
      · rw [h]; exact Int.le_refl _
  simp only at g1
  omega
theorem Rows.levle : ∀ t m, m ≤ (R t).length → ∀ a ∈ lev R t m, a ≤ X.length
  | 0, m, h, a, ha => by simp [lev] at ha; subst ha; rw [H.zero] at h; exact h
  | t + 1, m, h, a, ha => by
    rcases List.mem_cons.1 ha with rfl | ha
    · exact H.oneLe t m
    · exact Rows.levle t _ (H.twoLe t m) a ha
theorem Rows.down : ∀ t m, (lev R t m).Pairwise (fun a b => b ≤ a)
  | 0, m => by simp [lev]
  | t + 1, m => by
    have ih := Rows.down t (2 * nTwo R (t + 1) m)
    refine List.pairwise_cons.2 ⟨fun b hb => ?_, ih⟩
    have hm := H.mono t m
    cases hl : lev R t (2 * nTwo R (t + 1) m) with
    | nil => rw [hl] at hb; cases hb
    | cons c r =>
      rw [hl] at hb ih hm
      have hc := hm c rfl
      rcases List.mem_cons.1 hb with rfl | hb
      · exact hc
      · exact Nat.le_trans ((List.pairwise_cons.1 ih).1 b hb) hc
end

def wsum : List Nat → Nat
  | [] => 0
  | a :: r => a * 2 ^ r.length + wsum r
theorem lev_wsum {X : List PK} {R : Nat → List PK} (H : Rows X R) : ∀ t m, m ≤ (R t).length → wsum (lev R t m) = m * 2 ^ t
  | 0, m, _ => by simp [lev, wsum]
  | t + 1, m, h => by
    simp only [lev, wsum, lev_len, lev_wsum H t _ (H.twoLe t m)]
    have := n_sum R (t + 1) m h
    conv => rhs; rw [← this]
    rw [Nat.pow_succ, Nat.add_mul]
    have : 2 * nTwo R (t + 1) m * 2 ^ t = nTwo R (t + 1) m * (2 ^ t * 2) := by rw [Nat.mul_comm (2 ^ t) 2, ← Nat.mul_assoc, Nat.mul_comm 2]
    omega
/-- How many reach beyond i. -/
def hgt (as : List Nat) (i : Nat) : Nat := (as.filter fun a => decide (i < a)).length
theorem hgt_le (as : List Nat) (i : Nat) : hgt as i ≤ as.length := List.length_filter_le ..
theorem kraftN (n : Nat) : ∀ as : List Nat, as.Pairwise (fun a b => b ≤ a) → (∀ a ∈ as, a ≤ n) → ((List.range n).map fun i => 2 ^ (as.length - hgt as i)).sum + wsum as = n * 2 ^ as.length
  | [], _, _ => by
    have : ∀ m : Nat, ((List.range m).map fun _ => 1).sum = m := by
      intro m
      induction m with
      | zero => rfl
      | succ m ih => rw [List.range_succ, List.map_append, List.sum_append, ih]; simp
    have h2 := this n
    simp only [hgt, wsum, List.filter_nil, List.length_nil, Nat.sub_self, Nat.pow_zero, Nat.add_zero, Nat.mul_one]
    exact h2
  | a :: r, hp, hn => by
    have hp' := List.pairwise_cons.1 hp
    have ih := kraftN n r hp'.2 (fun b hb => hn b (by simp [hb]))
    have ha := hn a (by simp)
    have step : ((List.range n).map fun i => 2 ^ ((a :: r).length - hgt (a :: r) i)).sum = ((List.range n).map fun i => 2 ^ (r.length - hgt r i)).sum + (n - a) * 2 ^ r.length := by
      have hterm : ∀ i, 2 ^ ((a :: r).length - hgt (a :: r) i) = 2 ^ (r.length - hgt r i) + (if i < a then 0 else 2 ^ r.length) := by
        intro i
        by_cases h : i < a
        · rw [if_pos h, Nat.add_zero]
          congr 1
          have : hgt (a :: r) i = hgt r i + 1 := by simp [hgt, h]
          rw [this, List.length_cons]; omega
        · rw [if_neg h]
          have h0 : hgt r i = 0 := by
            unfold hgt
            rw [List.length_eq_zero_iff, List.filter_eq_nil_iff]
            intro b hb
            have := hp'.1 b hb
            simp; omega
          have h1 : hgt (a :: r) i = 0 := by simp [hgt, h]; intro b hb; have := hp'.1 b hb; omega
          rw [h0, h1, List.length_cons, Nat.sub_zero, Nat.sub_zero, Nat.pow_succ]; omega
      have hsum : ∀ m, m ≤ n → ((List.range m).map fun i => 2 ^ ((a :: r).length - hgt (a :: r) i)).sum = ((List.range m).map fun i => 2 ^ (r.length - hgt r i)).sum + (m - a) * 2 ^ r.length := by
        intro m
        induction m with
        | zero => intro _; simp
        | succ m ih =>
          intro hm
          rw [List.range_succ, List.map_append, List.map_append, List.sum_append, List.sum_append, ih (by omega)]
          simp only [List.map_cons, List.map_nil, List.sum_cons, List.sum_nil, Nat.add_zero, hterm m]
          by_cases h : m < a
          · rw [if_pos h, show m + 1 - a = 0 from by omega, show m - a = 0 from by omega]; omega
          · rw [if_neg h, show m + 1 - a = (m - a) + 1 from by omega, Nat.add_mul]; omega
      exact hsum n (Nat.le_refl _)
    rw [step]
    simp only [wsum, List.length_cons]
    have : (n - a) * 2 ^ r.length + a * 2 ^ r.length = n * 2 ^ r.length := by rw [← Nat.add_mul]; congr 1; omega
    have e2 : n * 2 ^ (r.length + 1) = n * 2 ^ r.length + n * 2 ^ r.length := by rw [Nat.pow_succ, ← Nat.mul_assoc, Nat.mul_two]
    rw [e2]
    have e3 : n * 2 ^ r.length = n * 2 ^ r.length := rfl
    omega
end Go.Pu

/- The lengths of a code: what the program finds. -/
set_option maxRecDepth 100000
namespace Go.Pu
open Go Go.Sl Go.Mo

/-- The symbols that come at all, each a packet. -/
def sgl : List Int → Nat → List PK
  | [], _ => []
  | n :: r, i => if 0 < n then ⟨n, [(i : Int)]⟩ :: sgl r (i + 1) else sgl r (i + 1)
def bigO (n : Int) : Bool := decide (n < 0) || decide (n > 1099511627776)
/-- What may be asked. -/
def okO (often : List Int) (most : Int) : Prop := 1 ≤ most ∧ most ≤ 15 ∧ often.length ≤ 320 ∧ (∀ n ∈ often, 0 ≤ n ∧ n ≤ 1099511627776) ∧ (sgl often 0).length ≤ 2 ^ most.toNat
instance (often : List Int) (most : Int) : Decidable (okO often most) := by unfold okO; exact inferInstance
def cntL (N : Nat) (D : List Int) : List Int := (List.range N).map fun (j : Nat) => ((D.count (j : Int) : Nat) : Int)
theorem cntL_len (N : Nat) (D : List Int) : (cntL N D).length = N := by simp [cntL]
theorem cntL_nil (N : Nat) : cntL N [] = List.replicate N 0 := by
  unfold cntL
  apply List.ext_getElem <;> simp
theorem rd_cntL {N : Nat} {D : List Int} {j : Nat} (h : j < N) : rd (cntL N D) (j : Int) = ((D.count (j : Int) : Nat) : Int) := by
  simp [rd, cntL, List.getD, h]
theorem cntL_snoc {N : Nat} {D : List Int} {j : Nat} (h : j < N) : (cntL N D).set j (((D.count (j : Int) + 1 : Nat)) : Int) = cntL N (D ++ [(j : Int)]) := by
  unfold cntL
  apply List.ext_getElem
  · simp
  · intro i h1 h2
    simp only [List.length_set, List.length_map, List.length_range] at h1
    rw [List.getElem_set]
    by_cases hij : j = i
    · subst hij; simp
    · rw [if_neg hij]
      have : ¬ ((j : Int) = (i : Int)) := by omega
      simp [List.count_append, List.count_cons, this]

theorem lens8 (K : Nat) (g : List Int → Int → Res (List Int × Int)) (zs : List PK) (v N : Nat) (hv : v < 1099511627776) (D : List Int) : ∀ (k : Nat) (S T : List Int), (rd zs (v : Int)).symbols_ = S ++ T → T.length < k → (S ++ T).length < 1099511627776 → (D ++ S ++ T).length < 1099511627776 → (∀ s ∈ T, ∃ j : Nat, j < N ∧ s = (j : Int)) →
    huff_Lengths.l8 K g zs (v : Int) k (cntL N (D ++ S)) (S.length : Int) = g (cntL N (D ++ S ++ T)) ((v + 1 : Nat) : Int) := by
  intro k
  induction k with
  | zero => intro S T _ h; omega
  | succ k ih =>
    intro S T h1 h2 h3 h5 h4
    rw [huff_Lengths.l8, h1, cond_dec]
    cases T with
    | nil => rw [if_neg (by simp), w64_id (by omega) (by omega)]; simp
    | cons s T =>
      obtain ⟨j, hj, rfl⟩ := h4 s (by simp)
      have hc : (D ++ S).count (j : Int) ≤ (D ++ S).length := List.count_le_length
      simp only [List.length_append, List.length_cons] at h2 h3 h5 hc
      rw [if_pos (by simp only [List.length_append, List.length_cons]; omega), inb_at _ _ _ rfl, chk_true, rd_at _ _ _ rfl, lt_eq, cntL_len, inbN hj, chk_true, rd_cntL hj, w64_id (by omega) (by omega), Int.toNat_natCast, lt_eq,
        show ((((D ++ S).count (j : Int) : Nat) : Int) + 1) = (((D ++ S).count (j : Int) + 1 : Nat) : Int) from rfl, cntL_snoc hj, show w64 ((S.length : Int) + 1) = ((S ++ [(j : Int)]).length : Int) from by rw [w64_id (by omega) (by omega)]; simp]
      have := ih (S ++ [(j : Int)]) T (by rw [h1]; simp) (by omega) (by simp only [List.length_append, List.length_cons, List.length_nil]; omega) (by simp only [List.length_append, List.length_cons, List.length_nil]; omega) (fun s hs => h4 s (by simp [hs]))
      simp only [← List.append_assoc] at this
      rw [this]
      simp
theorem lens7 (K : Nat) (N M : Nat) (hM : M < 1099511627776) (hMK : M < K) : ∀ (k : Nat) (A B : List PK), B.length < k → (A ++ B).length < 1099511627776 → (symsP (A ++ B)).length ≤ M → (∀ s ∈ symsP B, ∃ j : Nat, j < N ∧ s = (j : Int)) →
    huff_Lengths.l7 K (A ++ B) k (cntL N (symsP A)) (A.length : Int) = .ok (cntL N (symsP (A ++ B)), 0) := by
  intro k
  induction k with
  | zero => intro A B h; omega
  | succ k ih =>
    intro A B h1 h2 h3 h4
    rw [huff_Lengths.l7, cond_dec]
    cases B with
    | nil => rw [if_neg (by simp)]; simp
    | cons p B =>
      have h3' := h3
      simp only [List.length_append, List.length_cons] at h1 h2
      simp only [symsP, List.flatMap_append, List.flatMap_cons, List.length_append] at h3
      have hp := lens8 K (huff_Lengths.l7 K (A ++ p :: B) k) (A ++ p :: B) A.length N (by omega) (symsP A) K [] p.symbols_ (by rw [rd_at _ _ _ rfl]; rfl) (by omega) (by simp only [List.nil_append]; omega) (by simp only [List.append_nil, List.length_append, symsP]; omega)
        (fun s hs => h4 s (by simp only [symsP, List.flatMap_cons, List.mem_append]; exact .inl hs))
      simp only [List.append_nil, List.length_nil] at hp
      rw [if_pos (by simp only [List.length_append, List.length_cons]; omega), inb_at _ _ _ rfl, chk_true]
      rw [show ((0 : Nat) : Int) = 0 from rfl] at hp
      rw [hp]
      have := ih (A ++ [p]) B (by omega) (by simp only [List.length_append, List.length_cons, List.length_nil]; omega) (by rw [List.append_assoc]; exact h3') (fun s hs => h4 s (by simp only [symsP, List.flatMap_cons, List.mem_append] at hs ⊢; exact .inr hs))
      rw [show symsP A ++ p.symbols_ = symsP (A ++ [p]) from by simp [symsP], show ((A.length + 1 : Nat) : Int) = ((A ++ [p]).length : Int) from by simp, show A ++ p :: B = A ++ [p] ++ B from by simp, this]
      

theorem sgl_len : ∀ (l : List Int) (i : Nat), (sgl l i).length ≤ l.length
  | [], _ => Nat.le_refl _
  | n :: r, i => by
    unfold sgl
    have := sgl_len r (i + 1)
    split <;> simp <;> omega
theorem lens2 (K : Nat) (often : List Int) (most : Int) (hl : often.length ≤ 320) : ∀ (k : Nat) (D T : List Int) (O : List PK), D ++ T = often → T.length < k → O.length ≤ D.length →
    huff_Lengths.l2 K often most k O (D.length : Int) = huff_Lengths.j3 K often most (O ++ sgl T D.length) := by
  intro k
  induction k with
  | zero => intro D T O _ h; omega
  | succ k ih =>
    intro D T O h1 h2 h3
    have hlen : D.length + T.length = often.length := by rw [← h1]; simp
    rw [huff_Lengths.l2, cond_dec]
    cases T with
    | nil => rw [if_neg (by simp only [List.length_nil] at hlen; omega)]; simp [sgl]
    | cons n T =>
      simp only [List.length_cons] at h2 hlen
      have hn : w64 ((D.length : Int) + 1) = ((D ++ [n]).length : Int) := by rw [w64_id (by omega) (by omega)]; simp
      rw [if_pos (by omega), inbN (by omega), chk_true, show rd often (D.length : Int) = n from by rw [← h1]; exact rd_at _ _ _ rfl, lt_eq, cond_dec, hn]
      by_cases h0 : n > 0
      · rw [if_pos h0, room_of (by simp only [List.length_cons, List.length_nil]; omega), chk_true, lt_eq]
        have := ih (D ++ [n]) T (O ++ [⟨n, [(D.length : Int)]⟩]) (by rw [← h1]; simp) (by omega) (by simp; exact h3)
        rw [this]
        simp only [sgl, List.length_append, List.length_cons, List.length_nil]
        rw [if_pos (by omega)]
        simp
      · rw [if_neg h0, ih (D ++ [n]) T O (by rw [← h1]; simp) (by omega) (by simp; omega)]
        simp only [sgl, List.length_append, List.length_cons, List.length_nil]
        rw [if_neg (by omega)]
theorem containsBad (K : Nat) (often : List Int) (hl : often.length ≤ 320) : ∀ (k : Nat) (D T : List Int), D ++ T = often → T.length < k →
    (slices_IndexFunc___int_int__5d67.l1 K often k (D.length : Int)).bind (fun x => lt (decide (x ≥ (0 : Int))) fun v => .ok v) = .ok (T.any bigO) := by
  intro k
  induction k with
  | zero => intro D T _ h; omega
  | succ k ih =>
    intro D T h1 h2
    have hlen : D.length + T.length = often.length := by rw [← h1]; simp
    rw [slices_IndexFunc___int_int__5d67.l1, cond_dec]
    cases T with
    | nil => rw [if_neg (by simp only [List.length_nil] at hlen; omega)]; rfl
    | cons n T =>
      simp only [List.length_cons] at h2 hlen
      rw [if_pos (by omega), inbN (by omega), chk_true, show rd often (D.length : Int) = n from by rw [← h1]; exact rd_at _ _ _ rfl]
      unfold huff_Lengths_1.m
      rw [lt_eq, Res.bind_ok, List.any_cons]
      cases hb : bigO n with
      | true =>
        rw [show (decide (n < 0) || decide (n > 1099511627776)) = true from hb, cond_true, Res.bind_ok, lt_eq]
        simp
      | false =>
        rw [show (decide (n < 0) || decide (n > 1099511627776)) = false from hb, cond_false, show w64 ((D.length : Int) + 1) = ((D ++ [n]).length : Int) from by rw [w64_id (by omega) (by omega)]; simp,
          ih (D ++ [n]) T (by rw [← h1]; simp) (by omega)]
        simp
theorem bigO_iff (often : List Int) : often.any bigO = false ↔ ∀ n ∈ often, 0 ≤ n ∧ n ≤ 1099511627776 := by
  rw [List.any_eq_false]
  constructor
  · intro h n hn
    have := h n hn
    simp only [bigO, Bool.or_eq_true, decide_eq_true_eq] at this
    omega
  · intro h n hn
    have := h n hn
    simp only [bigO, Bool.or_eq_true, decide_eq_true_eq]
    omega
theorem shl1 {m : Int} (h1 : 1 ≤ m) (h2 : m ≤ 15) : ishl .i64 1 m = ((2 ^ m.toNat : Nat) : Int) := by
  obtain ⟨n, rfl⟩ : ∃ n : Nat, m = (n : Int) := ⟨m.toNat, by omega⟩
  have hp : 2 ^ n ≤ 2 ^ 15 := Nat.pow_le_pow_right (by decide) (by omega)
  have := ishl_i64 (a := 1) (n := n) (by omega) (by omega)
  rw [Int.toNat_natCast]
  rw [show ((1 : Nat) : Int) = 1 from rfl] at this
  rw [this, Nat.one_mul]
/-- What may not be asked. -/
theorem lensBad (K : Nat) (often : List Int) (most : Int) (hK : 320 < K) (h : ¬ okO often most) : huff_Lengths.m K often most = .ok ([], 1) := by
  unfold huff_Lengths.m
  by_cases h1 : (((decide (most < (1 : Int))) || (decide (most > (15 : Int)))) || (decide ((often.length : Int) > (320 : Int)))) = true
  · rw [h1, cond_true]; rfl
  · have h1' := h1
    simp only [Bool.or_eq_true, decide_eq_true_eq, not_or] at h1
    rw [Bool.not_eq_true] at h1'
    rw [h1', cond_false]
    have hc : slices_ContainsFunc___int_int__5d67.m K often = .ok (often.any bigO) := containsBad K often (by omega) K [] often rfl (by omega)
    rw [hc, Res.bind_ok]
    cases hb : often.any bigO with
    | true => rfl
    | false =>
      unfold huff_Lengths.j1
      have := lens2 K often most (by omega) K [] often [] rfl (by omega) (Nat.le_refl _)
      rw [show (([] : List Int).length : Int) = 0 from rfl] at this
      rw [cond_false, this]
      unfold huff_Lengths.j3
      rw [dec_nn (by omega), chk_true, shl1 (by omega) (by omega), cond_dec, if_pos]
      rw [bigO_iff] at hb
      have : ¬ (sgl often 0).length ≤ 2 ^ most.toNat := fun hh => h ⟨by omega, by omega, by omega, hb, hh⟩
      simp only [List.nil_append, List.length_nil]
      omega
end Go.Pu

/- The lengths of a code: what they are. -/
set_option maxRecDepth 100000
namespace Go.Pu
open Go Go.Sl Go.Mo

/-- The rows, as the program merges them. -/
def rowsM (K : Nat) (X : List PK) : Nat → List PK
  | 0 => X
  | t + 1 => match huff_merged.m K X (prs (rowsM K X t)) with
    | .ok r => r
    | _ => []
theorem rowsM_ok (K : Nat) (X : List PK) (hX : X.length ≤ 320) (hK : 1000 ≤ K) (hK2 : (1099511627776 : Nat) > K) : ∀ t, (rowsM K X t).length ≤ 2 * X.length ∧ SS (X ++ prs (rowsM K X t)) (rowsM K X (t + 1)) ∧ huff_merged.m K X (prs (rowsM K X t)) = .ok (rowsM K X (t + 1)) := by
  have step : ∀ t, (rowsM K X t).length ≤ 2 * X.length → SS (X ++ prs (rowsM K X t)) (rowsM K X (t + 1)) ∧ huff_merged.m K X (prs (rowsM K X t)) = .ok (rowsM K X (t + 1)) := by
    intro t ht
    have hp := prs_len (rowsM K X t)
    obtain ⟨R, h1, h2⟩ := progMerged K X (prs (rowsM K X t)) (by omega) hK2 (by omega) (by omega)
    have : rowsM K X (t + 1) = R := by rw [rowsM, h2]
    rw [this]
    exact ⟨h1, h2⟩
  have len : ∀ t, (rowsM K X t).length ≤ 2 * X.length := by
    intro t
    induction t with
    | zero => simp only [rowsM]; omega
    | succ t ih =>
      have := (step t ih).1.2.1.length_eq
      rw [this, List.length_append, prs_len]; omega
  exact fun t => ⟨len t, step t (len t)⟩
theorem rows_of (K : Nat) (X : List PK) (hX : X.length ≤ 320) (hK : 1000 ≤ K) (hK2 : (1099511627776 : Nat) > K) (h1 : ∀ p ∈ X, p.symbols_.length = 1) (h2 : ∀ p ∈ X, 0 < p.often_) (h3 : Srt X) : Rows X (rowsM K X) :=
  ⟨rfl, fun t => (rowsM_ok K X hX hK hK2 t).2.1, h1, h2, h3⟩

section
variable {X : List PK} {R : Nat → List PK} (H : Rows X R)
include H
theorem Rows.big (hb : ∀ p ∈ X, p.often_ ≤ 1099511627776) : ∀ t, ∀ p ∈ R t, p.often_ ≤ 1099511627776 * 2 ^ t ∧ p.symbols_.length ≤ 2 ^ t
  | 0, p, hp => by rw [H.zero] at hp; exact ⟨by have := hb p hp; simpa using this, by rw [H.one p hp]; exact Nat.le_refl _⟩
  | t + 1, p, hp => by
    have e1 : (2 : Int) ^ (t + 1) = 2 ^ t + 2 ^ t := by rw [Int.pow_succ]; omega
    have e2 : 2 ^ (t + 1) = 2 ^ t + 2 ^ t := by rw [Nat.pow_succ]; omega
    have p1 : (1 : Int) ≤ 2 ^ t := by have : 1 ≤ 2 ^ t := Nat.one_le_two_pow; exact_mod_cast this
    have p2 : 1 ≤ 2 ^ t := Nat.one_le_two_pow
    rcases List.mem_append.1 ((H.succ t).2.1.mem_iff.1 hp) with h | h
    · have := hb p h
      refine ⟨?_, by rw [H.one p h]; omega⟩
      rw [e1]; omega
    · obtain ⟨u, hu, v, hv, h1, h2⟩ := prs_mem h
      have g1 := Rows.big hb t u hu
      have g2 := Rows.big hb t v hv
      exact ⟨by rw [h1, e1]; omega, by rw [h2, List.length_append]; omega⟩
theorem Rows.lack : ∀ t, (R t).length ≤ 2 * X.length ∧ (2 * X.length - (R t).length) * 2 ^ t + 1 ≤ X.length + 2 ^ t
  | 0 => by rw [H.zero]; simp only [Nat.pow_zero]; omega
  | t + 1 => by
    obtain ⟨h1, h2⟩ := Rows.lack t
    have hl := H.len t
    refine ⟨by omega, ?_⟩
    obtain ⟨r, hr⟩ : ∃ r, 2 * X.length - (R t).length = r := ⟨_, rfl⟩
    have hr2 : 2 * X.length - (R (t + 1)).length = (r + 1) / 2 := by omega
    rw [hr] at h2
    rw [hr2, Nat.pow_succ]
    have : (r + 1) / 2 * (2 ^ t * 2) ≤ (r + 1) * 2 ^ t := by
      rw [Nat.mul_comm (2 ^ t) 2, ← Nat.mul_assoc]
      exact Nat.mul_le_mul_right _ (by omega)
    rw [Nat.add_mul, Nat.one_mul] at this
    omega
theorem Rows.size : ∀ t m, m ≤ (R t).length → (symsP ((R t).take m)).length ≤ (t + 1) * X.length
  | 0, m, h => by
    rw [H.zero]
    have : ∀ l : List PK, (∀ p ∈ l, p.symbols_.length = 1) → (symsP l).length = l.length := by
      intro l
      induction l with
      | nil => intro _; rfl
      | cons p l ih => intro hh; simp only [symsP, List.flatMap_cons, List.length_append, List.length_cons] at ih ⊢; rw [ih (fun q hq => hh q (by simp [hq])), hh p (by simp)]; omega
    rw [this _ (fun p hp => H.one p (List.mem_of_mem_take hp))]
    have := (List.take_sublist m X).length_le
    omega
  | t + 1, m, h => by
    have hp := (List.filter_append_perm isOne ((R (t + 1)).take m)).flatMap_right (·.symbols_)
    have h1 := hp.length_eq
    rw [List.flatMap_append, List.length_append, H.takeOne, H.takeTwo, prs_take] at h1
    have h2 := H.twoLe t m
    have h3 : ((R t).take (2 * nTwo R (t + 1) m)).length = 2 * nTwo R (t + 1) m := by rw [List.length_take, Nat.min_eq_left h2]
    have h4 := symsP_prs (l := (R t).take (2 * nTwo R (t + 1) m)) (by rw [h3]; omega)
    have h5 := Rows.size t (2 * nTwo R (t + 1) m) h2
    have h6 : (symsP (X.take (nOne R (t + 1) m))).length ≤ X.length := by
      have : ∀ l : List PK, (∀ p ∈ l, p.symbols_.length = 1) → (symsP l).length = l.length := by
        intro l
        induction l with
        | nil => intro _; rfl
        | cons p l ih => intro hh; simp only [symsP, List.flatMap_cons, List.length_append, List.length_cons] at ih ⊢; rw [ih (fun q hq => hh q (by simp [hq])), hh p (by simp)]; omega
      rw [this _ (fun p hp => H.one p (List.mem_of_mem_take hp))]
      exact (List.take_sublist _ X).length_le
    simp only [symsP] at h4 h5 h6 ⊢
    rw [h4] at h1
    rw [Nat.add_mul (t + 1) 1, Nat.one_mul]
    omega
end

theorem lens5 (K : Nat) (most : Int) (L : Nat) (hL : most = (L : Int)) (hL1 : 1 ≤ L) (hL2 : L ≤ 15) (out : List Int) (X : List PK) (hX : X.length ≤ 320) (hK : 1000 ≤ K) (hK2 : (1099511627776 : Nat) > K) (h1 : ∀ p ∈ X, p.symbols_.length = 1) (h2 : ∀ p ∈ X, 0 < p.often_) (h3 : Srt X) (hb : ∀ p ∈ X, p.often_ ≤ 1099511627776) :
    ∀ (j k t : Nat), t + j = L - 1 → j < k → huff_Lengths.l5 K most out X k (rowsM K X t) (t : Int) = huff_Lengths.j6 K out X (rowsM K X (L - 1)) := by
  intro j
  induction j with
  | zero =>
    intro k t hj hk
    obtain ⟨k, rfl⟩ : ∃ m, k = m + 1 := ⟨k - 1, by omega⟩
    have : t = L - 1 := by omega
    subst this
    rw [huff_Lengths.l5, cond_dec, hL, w64_id (by omega) (by omega), if_neg (by omega)]
  | succ j ih =>
    intro k t hj hk
    obtain ⟨k, rfl⟩ : ∃ m, k = m + 1 := ⟨k - 1, by omega⟩
    have H := rows_of K X hX hK hK2 h1 h2 h3
    have hr := rowsM_ok K X hX hK hK2 t
    have hp : huff_pairs.m K (rowsM K X t) = .ok (prs (rowsM K X t)) := by
      refine progPairs K _ (by omega) (by omega) (by omega) fun p hp => ?_
      have g1 := H.good t p hp
      have g2 := H.big hb t p hp
      have p1 : (2 : Int) ^ t ≤ 2 ^ 14 := by have : 2 ^ t ≤ 2 ^ 14 := Nat.pow_le_pow_right (by decide) (by omega); exact_mod_cast this
      have p2 : 2 ^ t ≤ 2 ^ 14 := Nat.pow_le_pow_right (by decide) (by omega)
      refine ⟨by omega, by omega, by omega⟩
    rw [huff_Lengths.l5, cond_dec, hL, w64_id (by omega) (by omega), if_pos (by omega), hp, Res.bind_ok, hr.2.2, Res.bind_ok, w64_id (by omega) (by omega), ← hL]
    exact ih k (t + 1) (by omega) (by omega)

/-! ## The symbols' places -/
theorem sgl_sym : ∀ (l : List Int) (i : Nat), ∀ p ∈ sgl l i, ∃ j, j < l.length ∧ 0 < rd l (j : Int) ∧ p = ⟨rd l (j : Int), [((i + j : Nat) : Int)]⟩
  | [], _, p, hp => by simp [sgl] at hp
  | n :: r, i, p, hp => by
    have tail : p ∈ sgl r (i + 1) → ∃ j, j < (n :: r).length ∧ 0 < rd (n :: r) (j : Int) ∧ p = ⟨rd (n :: r) (j : Int), [((i + j : Nat) : Int)]⟩ := by
      intro h
      obtain ⟨j, h1, h2, h3⟩ := sgl_sym r (i + 1) p h
      refine ⟨j + 1, by simp; exact h1, ?_, ?_⟩
      · have : rd (n :: r) ((j + 1 : Nat) : Int) = rd r (j : Int) := by simp [rd]
        rw [this]; exact h2
      · have : rd (n :: r) ((j + 1 : Nat) : Int) = rd r (j : Int) := by simp [rd]
        rw [this, h3]; simp; omega
    unfold sgl at hp
    split at hp
    · rename_i h0
      rcases List.mem_cons.1 hp with rfl | hp
      · exact ⟨0, by simp, by simpa [rd] using h0, by simp [rd]⟩
      · exact tail hp
    · exact tail hp
theorem sgl_has : ∀ (l : List Int) (i j : Nat), j < l.length → 0 < rd l (j : Int) → (⟨rd l (j : Int), [((i + j : Nat) : Int)]⟩ : PK) ∈ sgl l i
  | [], _, j, h, _ => by simp at h
  | n :: r, i, 0, h, h0 => by
    have : 0 < n := by simpa [rd] using h0
    simp [sgl, this, rd]
  | n :: r, i, j + 1, h, h0 => by
    have e : rd (n :: r) ((j + 1 : Nat) : Int) = rd r (j : Int) := by simp [rd]
    rw [e] at h0 ⊢
    have := sgl_has r (i + 1) j (by simpa using h) h0
    rw [show ((i + 1 + j : Nat) : Int) = ((i + (j + 1) : Nat) : Int) from by omega] at this
    unfold sgl
    split
    · exact List.mem_cons_of_mem _ this
    · exact this
theorem sgl_nodup : ∀ (l : List Int) (i : Nat), (symsP (sgl l i)).Nodup
  | [], _ => by simp [sgl, symsP]
  | n :: r, i => by
    have ih := sgl_nodup r (i + 1)
    unfold sgl
    split
    · simp only [symsP, List.flatMap_cons, List.singleton_append] at ih ⊢
      refine List.nodup_cons.2 ⟨fun h => ?_, ih⟩
      obtain ⟨p, hp, hs⟩ := List.mem_flatMap.1 h
      obtain ⟨j, _, _, rfl⟩ := sgl_sym r (i + 1) p hp
      simp at hs; omega
    · exact ih
end Go.Pu

/- The lengths of a code: a code's; none above the most; whoever comes more often has no longer code. -/
set_option maxRecDepth 100000
namespace Go.Pu
open Go Go.Sl Go.Mo

structure LensOk (often : List Int) (most : Int) (l : List Int) : Prop where
  len : l.length = often.length
  rng : ∀ j : Nat, j < often.length → 0 ≤ rd l (j : Int) ∧ rd l (j : Int) ≤ most
  zero : ∀ j : Nat, j < often.length → (rd l (j : Int) = 0 ↔ rd often (j : Int) = 0)
  chk : sCheck l = 0
  mono : ∀ i k : Nat, i < often.length → k < often.length → 0 < rd often (i : Int) → rd often (i : Int) < rd often (k : Int) → rd l (k : Int) ≤ rd l (i : Int)

def wt (x : Int) : Nat := if 0 < x ∧ x < 16 then 2 ^ (15 - x.toNat) else 0
theorem ks_sum : ∀ l : List Int, ks l 16 = (l.map wt).sum
  | [] => by simp [ks, c0]
  | x :: l => by rw [ks_cons, ks_sum l, List.map_cons, List.sum_cons, wt, show ((16 : Nat) : Int) = 16 from rfl]; omega
theorem symsP_take : ∀ (X : List PK) (a : Nat), (∀ p ∈ X, p.symbols_.length = 1) → symsP (X.take a) = (symsP X).take a
  | [], a, _ => by simp [symsP]
  | p :: X, 0, _ => by simp [symsP]
  | p :: X, a + 1, h => by
    obtain ⟨s, hs⟩ := List.length_eq_one_iff.1 (h p (by simp))
    have := symsP_take X a (fun q hq => h q (by simp [hq]))
    simp only [symsP] at this ⊢
    simp only [List.take_succ_cons, List.flatMap_cons, hs, List.singleton_append, this]
theorem symsP_one : ∀ (X : List PK), (∀ p ∈ X, p.symbols_.length = 1) → (symsP X).length = X.length
  | [], _ => rfl
  | p :: X, h => by
    have := symsP_one X (fun q hq => h q (by simp [hq]))
    simp only [symsP] at this
    simp only [symsP, List.flatMap_cons, List.length_append, List.length_cons, this, h p (by simp)]; omega
theorem symsP_get : ∀ (X : List PK) (i : Nat), (∀ p ∈ X, p.symbols_.length = 1) → i < X.length → ∃ s, (symsP X)[i]? = some s ∧ (rd X (i : Int)).symbols_ = [s]
  | [], i, _, h => by simp at h
  | p :: X, 0, h, _ => by
    obtain ⟨s, hs⟩ := List.length_eq_one_iff.1 (h p (by simp))
    exact ⟨s, by simp [symsP, hs], by simp [rd, hs]⟩
  | p :: X, i + 1, h, hi => by
    obtain ⟨s0, hs0⟩ := List.length_eq_one_iff.1 (h p (by simp))
    obtain ⟨s, h1, h2⟩ := symsP_get X i (fun q hq => h q (by simp [hq])) (by simpa using hi)
    refine ⟨s, ?_, ?_⟩
    · simp only [symsP] at h1
      simp [symsP, hs0, h1]
    · have : rd (p :: X) ((i + 1 : Nat) : Int) = rd X (i : Int) := by simp [rd]
      rw [this]; exact h2
theorem count_take {Y : List Int} (hn : Y.Nodup) {i : Nat} {s : Int} (hs : Y[i]? = some s) (a : Nat) : (Y.take a).count s = if i < a then 1 else 0 := by
  obtain ⟨hi, rfl⟩ := List.getElem?_eq_some_iff.1 hs
  by_cases h : i < a
  · rw [if_pos h]
    have hm : Y[i] ∈ Y.take a := List.mem_take_iff_getElem.2 ⟨i, by omega, rfl⟩
    have h1 : 0 < (Y.take a).count Y[i] := List.count_pos_iff.2 hm
    have h2 := List.nodup_iff_count.1 (hn.sublist (List.take_sublist a Y)) Y[i]
    omega
  · rw [if_neg h]
    rw [List.count_eq_zero]
    intro hm
    obtain ⟨j, hj, hj2⟩ := List.mem_take_iff_getElem.1 hm
    have hpw := List.pairwise_iff_getElem.1 hn
    rcases Nat.lt_trichotomy i j with h1 | h1 | h1
    · exact hpw i j hi (by omega) h1 hj2.symm
    · omega
    · exact hpw j i (by omega) hi h1 hj2
theorem sum_hgt (as : List Nat) (i : Nat) : (as.map fun a => if i < a then 1 else 0).sum = hgt as i := by
  induction as with
  | nil => rfl
  | cons a r ih =>
    rw [List.map_cons, List.sum_cons, ih]
    unfold hgt
    by_cases h : i < a
    · rw [List.filter_cons_of_pos (by simpa using h), if_pos h, List.length_cons]; omega
    · rw [List.filter_cons_of_neg (by simpa using h), if_neg h]; omega
theorem hgt_mono (as : List Nat) {i j : Nat} (h : i ≤ j) : hgt as j ≤ hgt as i := by
  unfold hgt
  induction as with
  | nil => simp
  | cons a r ih =>
    simp only [List.filter_cons]
    by_cases hj : j < a
    · rw [if_pos (by simpa using hj), if_pos (by simp; omega)]; simp; exact ih
    · rw [if_neg (by simpa using hj)]
      split
      · rw [List.length_cons]; omega
      · exact ih

/-- Facts on the symbols that come at all. -/
structure Places (often : List Int) (X : List PK) : Prop where
  one : ∀ p ∈ X, p.symbols_.length = 1
  nod : (symsP X).Nodup
  sym : ∀ i, i < X.length → ∃ j : Nat, j < often.length ∧ 0 < rd often (j : Int) ∧ (symsP X)[i]? = some (j : Int) ∧ (rd X (i : Int)).often_ = rd often (j : Int)
  has : ∀ j : Nat, j < often.length → 0 < rd often (j : Int) → ∃ i, i < X.length ∧ (symsP X)[i]? = some (j : Int)
theorem places {often : List Int} {X : List PK} (h : X.Perm (sgl often 0)) : Places often X := by
  have one : ∀ p ∈ X, p.symbols_.length = 1 := fun p hp => by
    obtain ⟨j, _, _, rfl⟩ := sgl_sym often 0 p (h.mem_iff.1 hp)
    rfl
  have hp : (symsP X).Perm (symsP (sgl often 0)) := List.Perm.flatMap_right (fun p : PK => p.symbols_) h
  refine ⟨one, hp.nodup_iff.2 (sgl_nodup often 0), fun i hi => ?_, fun j hj h0 => ?_⟩
  · have hm : rd X (i : Int) ∈ X := by simp only [rd, Int.toNat_natCast, List.getD, List.getElem?_eq_getElem hi]; exact List.getElem_mem hi
    obtain ⟨j, h1, h2, h3⟩ := sgl_sym often 0 _ (h.mem_iff.1 hm)
    obtain ⟨s, h4, h5⟩ := symsP_get X i one hi
    have e : s = ((0 + j : Nat) : Int) := by rw [h3] at h5; simpa using h5.symm
    rw [Nat.zero_add] at e
    exact ⟨j, h1, h2, by rw [h4, e], by rw [h3]⟩
  · have hm := h.mem_iff.2 (sgl_has often 0 j hj h0)
    have hs : ((0 + j : Nat) : Int) ∈ symsP X := by
      unfold symsP
      exact List.mem_flatMap.2 ⟨_, hm, by simp⟩
    obtain ⟨i, hi, he⟩ := List.getElem_of_mem hs
    rw [symsP_one X one] at hi
    rw [Nat.zero_add] at he
    exact ⟨i, hi, by rw [List.getElem?_eq_getElem (by rw [symsP_one X one]; exact hi), he]⟩

/-- What is told by how far each place reaches. -/
theorem lensOk_of {often : List Int} {X : List PK} {most : Int} {L : Nat} (hm : most = (L : Int)) (hL1 : 1 ≤ L) (hL : L ≤ 15) (hN : often.length ≤ 320) (hnn : ∀ n ∈ often, 0 ≤ n) (P : Places often X) (hs : Srt X) (as : List Nat) (hasl : as.length = L) (D : List Int)
    (hD : ∀ s, D.count s = (as.map fun a => (symsP (X.take a)).count s).sum) (hk : ((List.range X.length).map fun i => 2 ^ (L - hgt as i)).sum = 2 ^ L) (hX : 2 ≤ X.length) : LensOk often most (cntL often.length D) := by
  have hcnt : ∀ (i : Nat) (s : Int), (symsP X)[i]? = some s → D.count s = hgt as i := by
    intro i s hi
    rw [hD, ← sum_hgt]
    congr 1
    refine List.map_congr_left fun a _ => ?_
    rw [symsP_take X a P.one, count_take P.nod hi]
  have hrd : ∀ j : Nat, j < often.length → rd (cntL often.length D) (j : Int) = ((D.count (j : Int) : Nat) : Int) := fun j hj => rd_cntL hj
  have hone : ∀ i, i < X.length → 1 ≤ hgt as i := by
    intro i hi
    refine Nat.pos_of_ne_zero fun h0 => ?_
    -- a term is the whole sum already, and there is another one
    have key : ∀ n, i < n → n ≤ X.length → 2 ^ L + (n - 1) ≤ ((List.range n).map fun i => 2 ^ (L - hgt as i)).sum := by
      intro n
      induction n with
      | zero => intro h; omega
      | succ n ih =>
        intro h1 h2
        rw [List.range_succ, List.map_append, List.sum_append]
        simp only [List.map_cons, List.map_nil, List.sum_cons, List.sum_nil, Nat.add_zero]
        by_cases hin : i < n
        · have := ih hin (by omega)
          have h3 : 1 ≤ 2 ^ (L - hgt as n) := Nat.one_le_two_pow
          omega
        · have : i = n := by omega
          subst this
          rw [h0, Nat.sub_zero]
          have low : ∀ m, m ≤ i → m ≤ ((List.range m).map fun i => 2 ^ (L - hgt as i)).sum := by
            intro m
            induction m with
            | zero => intro _; exact Nat.zero_le _
            | succ m ih =>
              intro hm
              rw [List.range_succ, List.map_append, List.sum_append]
              simp only [List.map_cons, List.map_nil, List.sum_cons, List.sum_nil, Nat.add_zero]
              have := ih (by omega)
              have h3 : 1 ≤ 2 ^ (L - hgt as m) := Nat.one_le_two_pow
              omega
          have := low i (Nat.le_refl _)
          omega
    have := key X.length hi (Nat.le_refl _)
    omega
  have hle : ∀ i, hgt as i ≤ L := fun i => by rw [← hasl]; exact hgt_le as i
  have hzero : ∀ j : Nat, j < often.length → ¬ 0 < rd often (j : Int) → D.count (j : Int) = 0 := by
    intro j hj h0
    rw [hD]
    have : ∀ a, (symsP (X.take a)).count (j : Int) = 0 := by
      intro a
      rw [symsP_take X a P.one, List.count_eq_zero]
      intro hmem
      obtain ⟨i, hi, he⟩ := List.getElem_of_mem (List.mem_of_mem_take hmem)
      rw [symsP_one X P.one] at hi
      obtain ⟨j', h1, h2, h3, _⟩ := P.sym i hi
      rw [List.getElem?_eq_getElem (by rw [symsP_one X P.one]; exact hi), he] at h3
      have : j = j' := by have := Option.some.inj h3; omega
      subst this; exact h0 h2
    have z : ∀ as : List Nat, (as.map fun _ => 0).sum = 0 := by
      intro as
      induction as with
      | nil => rfl
      | cons a r ih => rw [List.map_cons, List.sum_cons, ih]
    simp only [this]
    exact z as
  have hNN : ∀ j : Nat, j < often.length → 0 ≤ rd often (j : Int) := fun j hj => hnn _ (by
    simp only [rd, Int.toNat_natCast, List.getD, List.getElem?_eq_getElem hj]; exact List.getElem_mem hj)
  have rng : ∀ j : Nat, j < often.length → 0 ≤ rd (cntL often.length D) (j : Int) ∧ rd (cntL often.length D) (j : Int) ≤ most := by
    intro j hj
    rw [hrd j hj, hm]
    by_cases h0 : 0 < rd often (j : Int)
    · obtain ⟨i, hi, h1⟩ := P.has j hj h0
      rw [hcnt i _ h1]
      have := hle i
      omega
    · rw [hzero j hj h0]; omega
  refine ⟨cntL_len _ _, rng, fun j hj => ?_, ?_, fun i k hi hk0 h0 hlt => ?_⟩
  · rw [hrd j hj]
    by_cases h0 : 0 < rd often (j : Int)
    · obtain ⟨i, hi, h1⟩ := P.has j hj h0
      rw [hcnt i _ h1]
      have := hone i hi
      omega
    · rw [hzero j hj h0]
      have := hNN j hj
      omega
  · -- the sum
    have hok : okL (cntL often.length D) := by
      refine ⟨by rw [cntL_len]; exact hN, fun x hx => ?_⟩
      obtain ⟨j, hj, rfl⟩ := rd_mem hx
      rw [cntL_len] at hj
      have := rng j hj
      exact ⟨this.1, by omega⟩
    unfold sCheck
    rw [if_pos hok, if_pos]
    refine .inr (.inr ?_)
    rw [ks_sum]
    -- over the symbols that come at all
    obtain ⟨F, hF⟩ : ∃ F : Int → Nat, ∀ s, F s = wt ((D.count s : Nat) : Int) := ⟨fun s => wt ((D.count s : Nat) : Int), fun _ => rfl⟩
    have e1 : ((cntL often.length D).map wt).sum = (((List.range often.length).map fun (j : Nat) => (j : Int)).filter (fun s => decide (0 < rd often s)) |>.map F).sum := by
      have gen : ∀ n, n ≤ often.length → ((cntL n D).map wt).sum = (((List.range n).map fun (j : Nat) => (j : Int)).filter (fun s => decide (0 < rd often s)) |>.map F).sum := by
        intro n
        induction n with
        | zero => intro _; rfl
        | succ n ih =>
          intro hn
          have := ih (by omega)
          unfold cntL at this ⊢
          rw [List.range_succ, List.map_append, List.map_append, List.sum_append, this, List.map_append, List.filter_append, List.map_append, List.sum_append]
          congr 1
          simp only [List.map_cons, List.map_nil]
          by_cases h0 : 0 < rd often (n : Int)
          · rw [List.filter_cons_of_pos (by simpa using h0)]
            simp [hF]
          · rw [List.filter_cons_of_neg (by simpa using h0), hzero n (by omega) h0]
            simp [wt]
      exact gen _ (Nat.le_refl _)
    have hperm : (((List.range often.length).map fun (j : Nat) => (j : Int)).filter (fun s => decide (0 < rd often s))).Perm (symsP X) := by
      refine (List.perm_ext_iff_of_nodup ?_ P.nod).2 fun s => ?_
      · refine List.Pairwise.filter _ ?_
        refine List.Pairwise.map _ ?_ List.nodup_range
        intro a b hab he; exact hab (by have he' : (a : Int) = (b : Int) := he; omega)
      · simp only [List.mem_filter, List.mem_map, List.mem_range, decide_eq_true_eq]
        constructor
        · rintro ⟨⟨j, hj, rfl⟩, h0⟩
          obtain ⟨i, hi, h1⟩ := P.has j hj h0
          exact List.mem_of_getElem? h1
        · intro hs
          obtain ⟨i, hi, he⟩ := List.getElem_of_mem hs
          rw [symsP_one X P.one] at hi
          obtain ⟨j, h1, h2, h3, _⟩ := P.sym i hi
          rw [List.getElem?_eq_getElem (by rw [symsP_one X P.one]; exact hi), he] at h3
          have : s = (j : Int) := by simpa using h3
          subst this
          exact ⟨⟨j, h1, rfl⟩, h2⟩
    rw [e1, (hperm.map F).sum_nat]
    have e2 : (symsP X).map F = (List.range X.length).map fun i => wt ((hgt as i : Nat) : Int) := by
      apply List.ext_getElem
      · simp [symsP_one X P.one]
      · intro i h1 h2
        simp only [List.length_map, List.length_range] at h2
        simp only [List.getElem_map, List.getElem_range, hF]
        congr 2
        exact hcnt i _ (List.getElem?_eq_getElem _)
    rw [e2]
    have e3 : ∀ n, n ≤ X.length → ((List.range n).map fun i => wt ((hgt as i : Nat) : Int)).sum = 2 ^ (15 - L) * ((List.range n).map fun i => 2 ^ (L - hgt as i)).sum := by
      intro n
      induction n with
      | zero => intro _; rfl
      | succ n ih =>
        intro hn
        rw [List.range_succ, List.map_append, List.map_append, List.sum_append, List.sum_append, ih (by omega), Nat.mul_add]
        congr 1
        simp only [List.map_cons, List.map_nil, List.sum_cons, List.sum_nil, Nat.add_zero]
        have g1 := hone n (by omega)
        have g2 := hle n
        unfold wt
        rw [if_pos (by omega), Int.toNat_natCast, ← Nat.pow_add]
        congr 1; omega
    rw [e3 _ (Nat.le_refl _), hk, ← Nat.pow_add, show 15 - L + L = 15 from by omega]
  · rw [hrd i hi, hrd k hk0]
    obtain ⟨p, hp, h1⟩ := P.has i hi h0
    obtain ⟨q, hq, h2⟩ := P.has k hk0 (by omega)
    rw [hcnt p _ h1, hcnt q _ h2]
    have : hgt as q ≤ hgt as p := by
      refine hgt_mono as ?_
      refine Nat.le_of_not_lt fun hlt2 => ?_
      have g := hs.rd (i := q) (j := p) (by omega) hp
      obtain ⟨j1, _, _, e1, e2⟩ := P.sym p hp
      obtain ⟨j2, _, _, e3, e4⟩ := P.sym q hq
      rw [h1] at e1; rw [h2] at e3
      have : i = j1 := by have := Option.some.inj e1; omega
      have : k = j2 := by have := Option.some.inj e3; omega
      subst_vars
      rw [e2, e4] at g
      omega
    omega
end Go.Pu

/- The lengths of a code: the whole. -/
set_option maxRecDepth 100000
namespace Go.Pu
open Go Go.Sl Go.Mo

theorem sgl_facts (often : List Int) (hnn : ∀ n ∈ often, 0 ≤ n ∧ n ≤ 1099511627776) : ∀ p ∈ sgl often 0, p.symbols_.length = 1 ∧ 0 < p.often_ ∧ p.often_ ≤ 1099511627776 := by
  intro p hp
  obtain ⟨j, h1, h2, rfl⟩ := sgl_sym often 0 p hp
  have hm : rd often (j : Int) ∈ often := by simp only [rd, Int.toNat_natCast, List.getD, List.getElem?_eq_getElem h1]; exact List.getElem_mem h1
  exact ⟨rfl, h2, (hnn _ hm).2⟩
theorem nz_cnt_nil (N : Nat) : nz (cntL N []) = [] := by
  rw [cntL_nil, nz, List.filter_eq_nil_iff]
  intro x hx
  rw [(List.mem_replicate.1 hx).2]; simp

theorem lensGood (K : Nat) (often : List Int) (most : Int) (hK : 6000 ≤ K) (hK2 : (1099511627776 : Nat) > K) (h : okO often most) : ∃ l, huff_Lengths.m K often most = .ok (l, 0) ∧ LensOk often most l := by
  obtain ⟨m1, m2, hN, hnn, hs⟩ := h
  obtain ⟨L, rfl⟩ : ∃ L : Nat, most = (L : Int) := ⟨most.toNat, by omega⟩
  rw [Int.toNat_natCast] at hs
  have hp15 : 2 ^ L ≤ 2 ^ 15 := Nat.pow_le_pow_right (by decide) (by omega)
  have hNN : ∀ j : Nat, j < often.length → 0 ≤ rd often (j : Int) := fun j hj => (hnn _ (by
    simp only [rd, Int.toNat_natCast, List.getD, List.getElem?_eq_getElem hj]; exact List.getElem_mem hj)).1
  -- the walk up to the single ones
  have hstart : huff_Lengths.m K often (L : Int) = huff_Lengths.j3 K often (L : Int) (sgl often 0) := by
    unfold huff_Lengths.m
    have h1 : (((decide ((L : Int) < (1 : Int))) || (decide ((L : Int) > (15 : Int)))) || (decide ((often.length : Int) > (320 : Int)))) = false := by
      simp only [Bool.or_eq_false_iff, decide_eq_false_iff_not]; omega
    have hc : slices_ContainsFunc___int_int__5d67.m K often = .ok (often.any bigO) := containsBad K often (by omega) K [] often rfl (by omega)
    rw [h1, cond_false, hc, Res.bind_ok, (bigO_iff often).2 hnn]
    unfold huff_Lengths.j1
    have := lens2 K often (L : Int) (by omega) K [] often [] rfl (by omega) (Nat.le_refl _)
    rw [show (([] : List Int).length : Int) = 0 from rfl] at this
    rw [cond_false, this, List.nil_append]
    rfl
  have hsl := sgl_len often 0
  have hj3 : huff_Lengths.j3 K often (L : Int) (sgl often 0) = if (sgl often 0).length = 1 then
      chk (inb (0 : Int) (sgl often 0).length) (chk (inb (0 : Int) ((rd (sgl often 0) (0 : Int)).symbols_).length) (chk (inb (rd ((rd (sgl often 0) (0 : Int)).symbols_) (0 : Int)) (List.replicate often.length (0 : Int)).length)
        (lt ((List.replicate often.length (0 : Int)).set (Int.toNat (rd ((rd (sgl often 0) (0 : Int)).symbols_) (0 : Int))) (1 : Int)) fun zs => huff_Lengths.j4 K (L : Int) (sgl often 0) zs)))
      else huff_Lengths.j4 K (L : Int) (sgl often 0) (List.replicate often.length 0) := by
    unfold huff_Lengths.j3
    rw [dec_nn (by omega), chk_true, shl1 (by omega) (by omega), cond_dec, if_neg (by rw [Int.toNat_natCast]; omega), Int.toNat_natCast, show (decide (0 ≤ (often.length : Int)) && room often.length 8) = true from by rw [Bool.and_eq_true]; exact ⟨dec_nn (by omega), room_of (by omega)⟩, chk_true, lt_eq, cond_beq]
    by_cases h1 : (sgl often 0).length = 1
    · rw [if_pos (by omega), if_pos h1]
    · rw [if_neg (by omega), if_neg h1]
  rw [hstart, hj3]
  have hfacts := sgl_facts often hnn
  by_cases hn : (sgl often 0).length < 2
  · by_cases h1 : (sgl often 0).length = 1
    · -- one symbol
      rw [if_pos h1]
      obtain ⟨p, hp⟩ := List.length_eq_one_iff.1 h1
      obtain ⟨j, j1, j2, j3⟩ := sgl_sym often 0 p (by rw [hp]; simp)
      rw [Nat.zero_add] at j3
      have hr : rd (sgl often 0) (0 : Int) = p := by rw [hp]; rfl
      have hr2 : rd p.symbols_ (0 : Int) = (j : Int) := by rw [j3]; rfl
      rw [hr, hr2, h1, show inb (0 : Int) 1 = true from rfl, chk_true, show inb (0 : Int) p.symbols_.length = true from by rw [j3]; rfl, chk_true, List.length_replicate, inbN j1, chk_true, lt_eq, Int.toNat_natCast]
      unfold huff_Lengths.j4
      rw [cond_dec, if_pos (by omega)]
      have e : (List.replicate often.length (0 : Int)).set j 1 = cntL often.length [(j : Int)] := by
        have := cntL_snoc (N := often.length) (D := []) j1
        rw [cntL_nil] at this
        simpa using this
      rw [e]
      have uniq : ∀ i : Nat, i < often.length → 0 < rd often (i : Int) → i = j := by
        intro i hi h0
        have := sgl_has often 0 i hi h0
        rw [hp, List.mem_singleton, j3] at this
        have := congrArg (fun q : PK => q.symbols_) this
        simp at this; omega
      have hc : ∀ i : Nat, i < often.length → rd (cntL often.length [(j : Int)]) (i : Int) = if i = j then 1 else 0 := by
        intro i hi
        rw [rd_cntL hi]
        by_cases hij : i = j
        · subst hij; simp
        · rw [if_neg hij]
          have : ¬ ((j : Int) = (i : Int)) := by omega
          simp [List.count_cons, this]
      refine ⟨_, rfl, cntL_len _ _, fun i hi => ?_, fun i hi => ?_, ?_, fun i k hi hk h0 hlt => ?_⟩
      · rw [hc i hi]; split <;> omega
      · rw [hc i hi]
        by_cases hij : i = j
        · subst hij; rw [if_pos rfl]; omega
        · rw [if_neg hij]
          have := hNN i hi
          have h2 : ¬ 0 < rd often (i : Int) := fun h => hij (uniq i hi h)
          omega
      · unfold sCheck
        rw [if_pos, if_pos]
        · refine .inr (.inl ?_)
          rw [← e, nz]
          have gen : ∀ n, ∀ i, i < n → (((List.replicate n (0 : Int)).set i 1).filter fun x => decide (0 < x)) = [1] := by
            intro n
            induction n with
            | zero => intro i h; omega
            | succ n ih =>
              intro i hi
              cases i with
              | zero =>
                have z : ((List.replicate n (0 : Int)).filter fun x => decide (0 < x)) = [] := by
                  rw [List.filter_eq_nil_iff]; intro x hx; rw [(List.mem_replicate.1 hx).2]; simp
                rw [List.replicate_succ, List.set_cons_zero, List.filter_cons_of_pos (by decide), z]
              | succ i => rw [List.replicate_succ, List.set_cons_succ, List.filter_cons_of_neg (by decide), ih i (by omega)]
          exact gen _ j j1
        · refine ⟨by rw [cntL_len]; exact hN, fun x hx => ?_⟩
          obtain ⟨i, hi, rfl⟩ := rd_mem hx
          rw [cntL_len] at hi
          rw [hc i hi]
          unfold inR
          split <;> omega
      · have := uniq i hi h0
        have := uniq k hk (by omega)
        subst_vars; omega
    · -- none
      rw [if_neg h1]
      unfold huff_Lengths.j4
      rw [cond_dec, if_pos (by omega), ← cntL_nil]
      have h0 : sgl often 0 = [] := List.length_eq_zero_iff.1 (by omega)
      have none : ∀ i : Nat, i < often.length → ¬ 0 < rd often (i : Int) := by
        intro i hi hpos
        have := sgl_has often 0 i hi hpos
        rw [h0] at this; cases this
      have hc : ∀ i : Nat, i < often.length → rd (cntL often.length []) (i : Int) = 0 := fun i hi => by rw [rd_cntL hi]; rfl
      refine ⟨_, rfl, cntL_len _ _, fun i hi => by rw [hc i hi]; omega, fun i hi => ?_, ?_, fun i k hi hk hp hlt => (none i hi hp).elim⟩
      · rw [hc i hi]
        have := none i hi; have := hNN i hi; omega
      · unfold sCheck
        rw [if_pos, if_pos (.inl (nz_cnt_nil _))]
        refine ⟨by rw [cntL_len]; exact hN, fun x hx => ?_⟩
        obtain ⟨i, hi, rfl⟩ := rd_mem hx
        rw [cntL_len] at hi
        rw [hc i hi]; unfold inR; omega
  · -- many
    rw [if_neg (by omega)]
    unfold huff_Lengths.j4
    obtain ⟨X, x1, x2⟩ := sortStable K (sgl often 0) hK2 (by omega) (by omega)
    rw [cond_dec, if_neg (by omega), x2, Res.bind_ok]
    have hXl : X.length = (sgl often 0).length := x1.2.1.length_eq
    have g1 : ∀ p ∈ X, p.symbols_.length = 1 := fun p hp => (hfacts p (x1.2.1.mem_iff.1 hp)).1
    have g2 : ∀ p ∈ X, 0 < p.often_ := fun p hp => (hfacts p (x1.2.1.mem_iff.1 hp)).2.1
    have g3 : ∀ p ∈ X, p.often_ ≤ 1099511627776 := fun p hp => (hfacts p (x1.2.1.mem_iff.1 hp)).2.2
    have H := rows_of K X (by omega) (by omega) hK2 g1 g2 x1.1
    have h5 := lens5 K (L : Int) L rfl (by omega) (by omega) (List.replicate often.length 0) X (by omega) (by omega) hK2 g1 g2 x1.1 g3 (L - 1) K 0 (by omega) (by omega)
    rw [show ((0 : Nat) : Int) = 0 from rfl, show rowsM K X 0 = X from rfl] at h5
    rw [h5]
    unfold huff_Lengths.j6
    -- enough packets
    have hlack := H.lack (L - 1)
    have hpow : 2 ^ L = 2 ^ (L - 1) + 2 ^ (L - 1) := by
      obtain ⟨q, rfl⟩ : ∃ q, L = q + 1 := ⟨L - 1, by omega⟩
      rw [Nat.pow_succ, Nat.add_sub_cancel]; omega
    have hp1 : 1 ≤ 2 ^ (L - 1) := Nat.one_le_two_pow
    have hr2 : 2 * X.length - (rowsM K X (L - 1)).length ≤ 2 := by
      refine Nat.le_of_not_lt fun h3 => ?_
      have : 3 * 2 ^ (L - 1) ≤ (2 * X.length - (rowsM K X (L - 1)).length) * 2 ^ (L - 1) := Nat.mul_le_mul_right _ h3
      omega
    have hm : 2 * X.length - 2 ≤ (rowsM K X (L - 1)).length := by omega
    have hrl := (rowsM_ok K X (by omega) (by omega) hK2 (L - 1)).1
    rw [show w64 (w64 ((2 : Int) * (X.length : Int)) - 2) = ((2 * X.length - 2 : Nat) : Int) from by rw [w64_id (x := (2 : Int) * (X.length : Int)) (by omega) (by omega), w64_id (by omega) (by omega)]; omega,
      subok_of (by omega) (by omega) (by omega), chk_true, lt_eq, sub_take]
    have P := places x1.2.1
    have hsize := H.size (L - 1) (2 * X.length - 2) hm
    have hsz : (L - 1 + 1) * X.length ≤ 15 * 320 := Nat.mul_le_mul (by omega) (by omega)
    have htl := (List.take_sublist (2 * X.length - 2) (rowsM K X (L - 1))).length_le
    have hzl : ((rowsM K X (L - 1)).take (2 * X.length - 2)).length = 2 * X.length - 2 := by rw [List.length_take]; omega
    have hcount := fun s => H.count s (L - 1) (2 * X.length - 2) hm
    have hsyms : ∀ s ∈ symsP ((rowsM K X (L - 1)).take (2 * X.length - 2)), ∃ j : Nat, j < often.length ∧ s = (j : Int) := by
      intro s hs
      have h1 := List.count_pos_iff.2 hs
      rw [hcount] at h1
      obtain ⟨a, ha⟩ : ∃ a, 0 < (symsP (X.take a)).count s := by
        refine Classical.byContradiction fun hno => ?_
        have hz : ∀ a, (symsP (X.take a)).count s = 0 := fun a => Nat.eq_zero_of_not_pos fun hp => hno ⟨a, hp⟩
        have z : ∀ as : List Nat, (as.map fun _ => 0).sum = 0 := by
          intro as
          induction as with
          | nil => rfl
          | cons a r ih => rw [List.map_cons, List.sum_cons, ih]
        simp only [hz, z] at h1
        omega
      have hmem := List.count_pos_iff.1 ha
      rw [symsP_take X a g1] at hmem
      obtain ⟨i, hi, he⟩ := List.getElem_of_mem (List.mem_of_mem_take hmem)
      rw [symsP_one X g1] at hi
      obtain ⟨j, q1, q2, q3, _⟩ := P.sym i hi
      rw [List.getElem?_eq_getElem (by rw [symsP_one X g1]; exact hi), he] at q3
      exact ⟨j, q1, Option.some.inj q3⟩
    have h7 := lens7 K often.length 4800 (by omega) (by omega) K [] ((rowsM K X (L - 1)).take (2 * X.length - 2)) (by omega) (by simp only [List.nil_append]; omega) (by simp only [List.nil_append]; omega) hsyms
    simp only [List.nil_append] at h7
    rw [show symsP [] = [] from rfl, cntL_nil, show (([] : List PK).length : Int) = 0 from rfl] at h7
    rw [h7]
    have hk := kraftN X.length (lev (rowsM K X) (L - 1) (2 * X.length - 2)) (H.down _ _) (H.levle _ _ hm)
    rw [lev_wsum H (L - 1) _ hm, lev_len, show L - 1 + 1 = L from by omega] at hk
    have hk2 : ((List.range X.length).map fun i => 2 ^ (L - hgt (lev (rowsM K X) (L - 1) (2 * X.length - 2)) i)).sum = 2 ^ L := by
      have e1 : (2 * X.length - 2) * 2 ^ (L - 1) = (X.length - 1) * 2 ^ L := by
        rw [hpow, Nat.mul_add, ← Nat.add_mul]; congr 1; omega
      have e2 : X.length * 2 ^ L = (X.length - 1) * 2 ^ L + 2 ^ L := by
        conv => lhs; rw [show X.length = (X.length - 1) + 1 from by omega, Nat.add_mul, Nat.one_mul]
      omega
    exact ⟨_, rfl, lensOk_of rfl (by omega) (by omega) hN (fun n hn => (hnn n hn).1) P x1.1 _ (by rw [lev_len]; omega) _ hcount hk2 (by omega)⟩
end Go.Pu

/- Huff: what stands live; the same lists; HuffReads. -/
namespace Go.Pu
open Go Go.Sl Go.Mo

theorem live06 (K : Nat) (hK : 2000 ≤ K) : mortiselaw06_live.m K = .ok true := by
  obtain ⟨m, rfl⟩ : ∃ m, K = m + 2000 := ⟨K - 2000, by omega⟩
  kernel_rfl

end Go.Pu

/- HuffMany: whoever comes more often has no longer code. -/
set_option maxRecDepth 100000
namespace Go.Pu
open Go Go.Sl Go.Mo

theorem oftenLoop (K : Nat) (often : List Int) (most : Int) (hl : often.length ≤ 320) : ∀ (k : Nat) (D T : List Int) (n : Nat), D ++ T = often → T.length < k → n ≤ D.length →
    mortiseref06_Often.l1 K often most k (n : Int) (D.length : Int) = if T.any bigO = true then .ok false else mortiseref06_Often.j2 K most ((n + (sgl T D.length).length : Nat) : Int) := by
  intro k
  induction k with
  | zero => intro D T n _ h; omega
  | succ k ih =>
    intro D T n h1 h2 h3
    have hlen : D.length + T.length = often.length := by rw [← h1]; simp
    rw [mortiseref06_Often.l1, cond_dec]
    cases T with
    | nil => rw [if_neg (by simp only [List.length_nil] at hlen; omega)]; simp [sgl]
    | cons x T =>
      simp only [List.length_cons] at h2 hlen
      have hn : w64 ((D.length : Int) + 1) = ((D ++ [x]).length : Int) := by rw [w64_id (by omega) (by omega)]; simp
      rw [if_pos (by omega), inbN (by omega), chk_true, show rd often (D.length : Int) = x from by rw [← h1]; exact rd_at _ _ _ rfl, List.any_cons]
      cases hb : bigO x with
      | true => rw [show (decide (x < 0) || decide (x > 1099511627776)) = true from hb, cond_true]; simp
      | false =>
        rw [show (decide (x < 0) || decide (x > 1099511627776)) = false from hb, cond_false, cond_dec]
        by_cases h0 : x > 0
        · rw [if_pos h0, lt_eq, lt_eq, hn, show w64 ((n : Int) + 1) = ((n + 1 : Nat) : Int) from by rw [w64_id (by omega) (by omega)]; rfl, ih (D ++ [x]) T (n + 1) (by rw [← h1]; simp) (by omega) (by simp; exact h3)]
          simp only [Bool.false_or, sgl, List.length_append, List.length_cons, List.length_nil, Nat.zero_add]
          rw [if_pos (show 0 < x from h0), List.length_cons, show n + 1 + (sgl T (D.length + 1)).length = n + ((sgl T (D.length + 1)).length + 1) from by omega]
        · rw [if_neg h0, lt_eq, hn, ih (D ++ [x]) T n (by rw [← h1]; simp) (by omega) (by simp; omega)]
          simp only [Bool.false_or, sgl, List.length_append, List.length_cons, List.length_nil, Nat.zero_add]
          rw [if_neg (show ¬ 0 < x from h0)]
theorem refOften (K : Nat) (often : List Int) (most : Int) (hK : 320 < K) : mortiseref06_Often.m K often most = .ok (decide (okO often most)) := by
  unfold mortiseref06_Often.m
  by_cases h1 : (((decide (most < (1 : Int))) || (decide (most > (15 : Int)))) || (decide ((often.length : Int) > (320 : Int)))) = true
  · rw [h1, cond_true, show decide (okO often most) = false from by
      simp only [Bool.or_eq_true, decide_eq_true_eq] at h1
      rw [decide_eq_false_iff_not]; intro h; have := h.1; have := h.2.1; have := h.2.2.1; omega]
  · have h1' := h1
    simp only [Bool.or_eq_true, decide_eq_true_eq, not_or] at h1
    rw [Bool.not_eq_true] at h1'
    have := oftenLoop K often most (by omega) K [] often 0 rfl (by omega) (Nat.le_refl _)
    rw [show ((0 : Nat) : Int) = 0 from rfl, show (([] : List Int).length : Int) = 0 from rfl] at this
    rw [h1', cond_false, this]
    by_cases hb : often.any bigO = true
    · rw [if_pos hb, show decide (okO often most) = false from by
        rw [decide_eq_false_iff_not]; intro h
        rw [(bigO_iff often).2 h.2.2.2.1] at hb; cases hb]
    · rw [if_neg hb]
      unfold mortiseref06_Often.j2
      rw [wru64_id (by omega) (by omega), dec_nn (by omega), chk_true, shl1 (by omega) (by omega), lt_eq]
      rw [Bool.not_eq_true, bigO_iff] at hb
      congr 1
      rw [decide_eq_decide]
      simp only [Nat.zero_add, List.length_nil]
      constructor
      · intro h; exact ⟨by omega, by omega, by omega, hb, by omega⟩
      · intro h; have := h.2.2.2.2; omega

theorem many5 (K : Nat) (g : Int → Res Bool) (often l : List Int) (most : Int) (h : LensOk often most l) (hN : often.length ≤ 320) (i : Nat) (hi : i < often.length) : ∀ (j k : Nat) (c : Nat), c + j = often.length → j < k →
    mortiselaw06_HuffMany.l5 K g often l (i : Int) k (c : Int) = g ((i + 1 : Nat) : Int) := by
  intro j
  induction j with
  | zero =>
    intro k c hc hk
    obtain ⟨k, rfl⟩ : ∃ m, k = m + 1 := ⟨k - 1, by omega⟩
    rw [mortiselaw06_HuffMany.l5, cond_dec, if_neg (by rw [h.len]; omega), w64_id (by omega) (by omega), lt_eq]
    rfl
  | succ j ih =>
    intro k c hc hk
    obtain ⟨k, rfl⟩ : ∃ m, k = m + 1 := ⟨k - 1, by omega⟩
    have next : mortiselaw06_HuffMany.j6 K (mortiselaw06_HuffMany.l5 K g often l (i : Int) k) (c : Int) false = g ((i + 1 : Nat) : Int) := by
      unfold mortiselaw06_HuffMany.j6
      rw [cond_false, w64_id (by omega) (by omega), lt_eq]
      exact ih k (c + 1) (by omega) (by omega)
    rw [mortiselaw06_HuffMany.l5, cond_dec, if_pos (by rw [h.len]; omega), inbN (by omega), chk_true, inbN hi, chk_true, cond_dec]
    by_cases h1 : rd often (c : Int) > rd often (i : Int)
    · rw [if_pos h1, cond_dec]
      by_cases h2 : rd often (i : Int) > 0
      · have := h.mono i c hi (by omega) h2 h1
        rw [if_pos h2, inbN (by rw [h.len]; omega), chk_true, inbN (by rw [h.len]; omega), chk_true, show decide (rd l (c : Int) > rd l (i : Int)) = false from by rw [decide_eq_false_iff_not]; omega]
        exact next
      · rw [if_neg h2]; exact next
    · rw [if_neg h1]; exact next
theorem many3 (K : Nat) (often l : List Int) (most : Int) (h : LensOk often most l) (hN : often.length ≤ 320) (hK : 320 < K) : ∀ (j k : Nat) (i : Nat), i + j = often.length → j < k →
    mortiselaw06_HuffMany.l3 K often most l k (i : Int) = mortiselaw06_HuffMany.j7 K := by
  intro j
  induction j with
  | zero =>
    intro k c hc hk
    obtain ⟨k, rfl⟩ : ∃ m, k = m + 1 := ⟨k - 1, by omega⟩
    rw [mortiselaw06_HuffMany.l3, cond_dec, if_neg (by rw [h.len]; omega)]
  | succ j ih =>
    intro k i hi hk
    obtain ⟨k, rfl⟩ : ∃ m, k = m + 1 := ⟨k - 1, by omega⟩
    have r := h.rng i (by omega)
    have z := h.zero i (by omega)
    have e : (!(((rd l (i : Int)) == (0 : Int)) == ((rd often (i : Int)) == (0 : Int)))) = false := by
      by_cases h0 : rd l (i : Int) = 0
      · have := z.1 h0; simp [h0, this]
      · have : ¬ rd often (i : Int) = 0 := fun hh => h0 (z.2 hh)
        rw [beq_false_of_ne h0, beq_false_of_ne this]; rfl
    rw [mortiselaw06_HuffMany.l3, cond_dec, if_pos (by rw [h.len]; omega), inbN (by rw [h.len]; omega), chk_true, cond_dec, if_neg (by omega), inbN (by omega), chk_true, e]
    unfold mortiselaw06_HuffMany.j4
    rw [cond_false]
    have := many5 K (mortiselaw06_HuffMany.l3 K often most l k) often l most h hN i (by omega) often.length K 0 (by omega) (by omega)
    rw [show ((0 : Nat) : Int) = 0 from rfl] at this
    rw [this]
    exact ih k (i + 1) (by omega) (by omega)

theorem pureMany0 (K : Nat) (often : List Int) (most : Int) (hK : 6000 ≤ K) (hK2 : (1099511627776 : Nat) > K) : mortiselaw06_HuffMany.m K often most = .ok true := by
  unfold mortiselaw06_HuffMany.m
  have hlive := live06 K (by omega)
  by_cases hok : okO often most
  · obtain ⟨l, h1, h2⟩ := lensGood K often most hK hK2 hok
    rw [h1, Res.bind_ok, refOften K often most (by omega)]
    dsimp only
    rw [Res.bind_ok, show decide (okO often most) = true from decide_eq_true hok]
    simp only [beq_self_eq_true, Bool.not_true, cond_false, bne_self_eq_false]
    rw [h2.len, show ((often.length : Int) != (often.length : Int)) = false from by simp, cond_false, progCheck K l (by omega), h2.chk, Res.bind_ok]
    unfold mortiselaw06_HuffMany.j2
    have hN := hok.2.2.1
    have := many3 K often l most h2 hN (by omega) often.length K 0 (by omega) (by omega)
    rw [show ((0 : Nat) : Int) = 0 from rfl] at this
    rw [show ((0 : Int) != 0) = false from rfl, cond_false, this]
    unfold mortiselaw06_HuffMany.j7
    rw [hlive]; rfl
  · rw [lensBad K often most (by omega) hok, Res.bind_ok, refOften K often most (by omega)]
    dsimp only
    rw [Res.bind_ok, show decide (okO often most) = false from decide_eq_false hok]
    rw [show (!(((1 : Int) == 0) == false)) = false from rfl, cond_false, show ((1 : Int) != 0) = true from rfl, cond_true, show (((1 : Int) == 1) && ((([] : List Int).length : Int) == 0)) = true from rfl, cond_true, hlive]
    rfl
/-- HuffMany. -/
theorem pure_HuffMany (often : List Int) (most : Int) (hw : ∀ n ∈ often, (Lit.int .i64 n).wf = true) (hz : often.length * 8 ≤ 140737488351232) (hm : (Lit.int .i64 most).wf = true) : mortiselaw06_HuffMany.m 6000 often most = .ok true :=
  pureMany0 6000 often most (Nat.le_refl _) (by decide)
end Go.Pu

