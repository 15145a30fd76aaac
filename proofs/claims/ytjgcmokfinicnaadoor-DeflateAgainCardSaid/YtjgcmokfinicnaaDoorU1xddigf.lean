/- Plain facts on the models: what they compute, and what holds of them; conditions: what each theorem states. -/
import Derived.Test.YtjgcmokfinicnaaDoorMmgneg
set_option linter.unusedVariables false
set_option linter.unusedSimpArgs false
namespace Go.Pu
open Go Go.Sl
theorem qK {x : Int} (h0 : -9223372036854775808 ≤ x) (h1 : x < 9223372036854775808) : qk x = x := by
  show (if (true && decide (x % 18446744073709551616 ≥ 9223372036854775808)) = true then x % 18446744073709551616 - 18446744073709551616 else x % 18446744073709551616) = x
  split <;> rename_i h <;> simp at h <;> omega
theorem UT (x : Int) : wr .u64 x = x % 18446744073709551616 := by
  simp [wr, IntKind.wrap, IntKind.bits, IntKind.signed]
theorem U5 (x : Int) : wr .u32 x = x % 4294967296 := by
  simp [wr, IntKind.wrap, IntKind.bits, IntKind.signed]
theorem UV (x : Int) : wr .u8 x = x % 256 := by
  simp [wr, IntKind.wrap, IntKind.bits, IntKind.signed]
theorem ZR {x : Int} (h0 : 0 ≤ x) (h1 : x < 18446744073709551616) : wr .u64 x = x := by rw [UT]; omega
theorem jd {x : Int} (h0 : 0 ≤ x) (h1 : x < 4294967296) : wr .u32 x = x := by rw [U5]; omega
theorem Zp {x : Int} (h0 : 0 ≤ x) (h1 : x < 256) : wr .u8 x = x := by rw [UV]; omega
theorem ZZ {x : Int} (h0 : -9223372036854775808 ≤ x) (h1 : x < 9223372036854775808) : wr .i64 x = x := qK h0 h1
theorem ul (n a : Nat) : BitVec.ofInt n (a : Int) = BitVec.ofNat n a := by
  apply BitVec.eq_of_toNat_eq
  simp
theorem Xo {a b : Nat} (ha : a < 9223372036854775808) (hb : b < 9223372036854775808) : xh .i64 a b = ((a &&& b : Nat) : Int) := by
  show IntKind.i64.wrap ((BitVec.ofInt 64 (a : Int) &&& BitVec.ofInt 64 (b : Int)).toNat : Int) = _
  simp only [ul, BitVec.toNat_and, BitVec.toNat_ofNat]
  rw [Nat.mod_eq_of_lt (by omega), Nat.mod_eq_of_lt (by omega)]
  have : a &&& b ≤ a := Nat.and_le_left
  exact qK (by omega) (by omega)
theorem J3 {a b : Nat} (ha : a < 9223372036854775808) (hb : b < 9223372036854775808) : jj .i64 (a : Int) (b : Int) = ((a / b : Nat) : Int) := by
  unfold jj
  have h1 : (a : Int).tdiv (b : Int) = ((a / b : Nat) : Int) := by rw [Int.ofNat_tdiv]
  rw [h1]
  have h2 : a / b ≤ a := Nat.div_le_self _ _
  generalize a / b = q at h2 ⊢
  exact qK (by omega) (by omega)
theorem yQ {k : IntKind} {a n : Nat} (hn : n ≤ k.bits) : zR k (a : Int) (n : Int) = ((a / 2 ^ n : Nat) : Int) := by
  unfold zR
  rw [Int.toNat_natCast, Nat.min_eq_left hn, Int.fdiv_eq_ediv_of_nonneg _ (Int.pow_nonneg (by decide))]
  simp
theorem jA {a n : Nat} (hn : n ≤ 64) (h : a * 2 ^ n < 9223372036854775808) : zV .i64 (a : Int) (n : Int) = ((a * 2 ^ n : Nat) : Int) := by
  unfold zV
  rw [Int.toNat_natCast, show min n IntKind.i64.bits = n from Nat.min_eq_left hn]
  have e : (a : Int) * 2 ^ n = ((a * 2 ^ n : Nat) : Int) := by push_cast; rfl
  rw [e]
  exact qK (by omega) (by omega)
theorem Jp {a n : Nat} (hn : n ≤ 32) (h : a * 2 ^ n < 4294967296) : zV .u32 (a : Int) (n : Int) = ((a * 2 ^ n : Nat) : Int) := by
  unfold zV
  rw [Int.toNat_natCast, show min n IntKind.u32.bits = n from Nat.min_eq_left hn]
  have e : (a : Int) * 2 ^ n = ((a * 2 ^ n : Nat) : Int) := by push_cast; rfl
  rw [e]
  exact jd (by omega) (by omega)
end Go.Pu

namespace Go.Pu
open Go Go.Sl Go.Mo
def ZL (t : List UInt8) (i : Nat) : Bool := (t.getD (i / 8) 0).toNat.testBit (i % 8)
def Ke (t : List UInt8) (p : Nat) : Nat → Nat
  | 0 => 0
  | n + 1 => Ke t p n + (ZL t (p + n)).toNat * 2 ^ n
def jG (t : List UInt8) (p n : Nat) : Except Int (Nat × Nat) := if p + n ≤ 8 * t.length then .ok (Ke t p n, p + n) else .error 2
end Go.Pu

namespace Go.Pu
open Go Go.Sl Go.Mo
end Go.Pu

namespace Go.Pu
open Go Go.Sl Go.Mo
def JC (t : List UInt8) (p n : Nat) : Except Int (List UInt8 × Nat) :=
  if (p + 7) / 8 + n ≤ t.length then .ok ((t.drop ((p + 7) / 8)).take n, 8 * ((p + 7) / 8 + n)) else .error 2
end Go.Pu

namespace Go.Pu
open Go Go.Sl Go.Mo
def YP (x : Int) : Prop := 0 ≤ x ∧ x ≤ 15
instance (x : Int) : Decidable (YP x) := inferInstanceAs (Decidable (_ ∧ _))
def XG (l : List Int) : Prop := l.length ≤ 320 ∧ ∀ x ∈ l, YP x
instance (l : List Int) : Decidable (XG l) := inferInstanceAs (Decidable (_ ∧ _))
def cs (l : List Int) : List Int := (List.range 16).map fun (j : Nat) => ((l.count (j : Int) : Nat) : Int)
def XD (l : List Int) : List Int := (List.range 16).map fun (j : Nat) => if j = 0 then 0 else ((l.count (j : Int) : Nat) : Int)
theorem J6 (l : List Int) : (cs l).length = 16 := by simp [cs]
theorem Vv (l : List Int) : (XD l).length = 16 := by simp [XD]
theorem yb {α : Type} [Inhabited α] {l : List α} {i : Nat} (h : i < l.length) : rd l (i : Int) = l[i] := by
  simp [rd, List.getD, List.getElem?_eq_getElem h]
theorem zG {i n : Nat} (h : i < n) : inb (i : Int) n = true := by simp only [inb, decide_eq_true_eq]; omega
theorem jf {α : Type} {l : List α} {i : Nat} (h : i < l.length) : l.take (i + 1) = l.take i ++ [l[i]] := List.take_succ_eq_append_getElem h
theorem vR {α : Type} {l : List α} {i : Nat} (h : i < l.length) : l.drop i = l[i] :: l.drop (i + 1) := List.drop_eq_getElem_cons h
theorem Vx {l : List Int} {i : Nat} (h : i < l.length) (hi : YP l[i]) (hl : l.length ≤ 320) :
    (cs (l.take i)).set (Int.toNat l[i]) (qk ((rd (cs (l.take i)) l[i]) + 1)) = cs (l.take (i + 1)) := by
  obtain ⟨h0, h1⟩ := hi
  obtain ⟨x, hx⟩ := Int.eq_ofNat_of_zero_le h0
  have hx16 : x < 16 := by omega
  have hrd : rd (cs (l.take i)) l[i] = (((l.take i).count (x : Int) : Nat) : Int) := by
    rw [hx, yb (by rw [J6]; exact hx16)]; simp [cs]
  have hc : (l.take i).count (x : Int) ≤ 320 := Nat.le_trans List.count_le_length (by simp; omega)
  rw [hrd, qK (by omega) (by omega), hx]
  apply List.ext_getElem
  · simp [cs]
  · intro j h1 h2
    simp only [List.length_set, J6] at h1
    rw [List.getElem_set]
    simp only [Int.toNat_natCast, jf h]
    by_cases hj : x = j
    · subst hj
      simp [cs, List.count_append, hx]
    · have : ¬ ((x : Int) = (j : Int)) := by omega
      simp [cs, List.count_append, hj, hx, List.count_cons, this]
theorem Xt (K : Nat) (l : List Int) (hl : l.length ≤ 320) : ∀ j k i, i + j = l.length → j < k → (∀ x ∈ l.drop i, YP x) →
    zD.l1 K l k (cs (l.take i)) (i : Int) = zD.j2 K (cs l)
  | _, 0, _, _, h, _ => by omega
  | 0, k + 1, i, hi, _, _ => by
    rw [zD.l1]
    have h1 : decide ((i : Int) < (l.length : Int)) = false := by simp only [decide_eq_false_iff_not]; omega
    rw [h1, cond_false, List.take_of_length_le (by omega)]
  | j + 1, k + 1, i, hi, hk, hr => by
    rw [zD.l1]
    have hil : i < l.length := by omega
    have h1 : decide ((i : Int) < (l.length : Int)) = true := by simp only [decide_eq_true_eq]; omega
    rw [h1, cond_true, zG hil]
    simp only [qv, qQ, yb hil]
    rw [vR hil] at hr
    have hin := hr l[i] List.mem_cons_self
    have h2 : (decide (l[i] < 0) || decide (l[i] > 15)) = false := by obtain ⟨a, b⟩ := hin; simp; omega
    have h3 : inb l[i] 16 = true := by obtain ⟨a, b⟩ := hin; simp only [inb, decide_eq_true_eq]; omega
    rw [h2, cond_false, h3]
    simp only [qv]
    rw [Vx hil hin hl]
    have e : qk ((i : Int) + 1) = ((i + 1 : Nat) : Int) := by rw [qK (by omega) (by omega)]; push_cast; rfl
    rw [e]
    exact Xt K l hl j k (i + 1) (by omega) (by omega) (fun x hx => hr x (List.mem_cons_of_mem _ hx))
theorem Q8 (K : Nat) (l : List Int) (hl : l.length ≤ 320) : ∀ j k i c, i + j = l.length → j < k → c.length = 16 → (∃ x ∈ l.drop i, ¬ YP x) →
    ∃ c', zD.l1 K l k c (i : Int) = .ok (c', false)
  | _, 0, _, _, _, h, _, _ => by omega
  | 0, k + 1, i, c, hi, _, _, ⟨x, hx, _⟩ => by
    rw [List.drop_eq_nil_of_le (by omega)] at hx; cases hx
  | j + 1, k + 1, i, c, hi, hk, hc, ⟨x, hx, hn⟩ => by
    rw [zD.l1]
    have hil : i < l.length := by omega
    have h1 : decide ((i : Int) < (l.length : Int)) = true := by simp only [decide_eq_true_eq]; omega
    rw [h1, cond_true, zG hil]
    simp only [qv, qQ, yb hil]
    by_cases hin : YP l[i]
    · have h2 : (decide (l[i] < 0) || decide (l[i] > 15)) = false := by obtain ⟨a, b⟩ := hin; simp; omega
      have h3 : inb l[i] 16 = true := by obtain ⟨a, b⟩ := hin; simp only [inb, decide_eq_true_eq]; omega
      rw [h2, cond_false, h3]
      simp only [qv]
      have e : qk ((i : Int) + 1) = ((i + 1 : Nat) : Int) := by rw [qK (by omega) (by omega)]; push_cast; rfl
      rw [e]
      refine Q8 K l hl j k (i + 1) _ (by omega) (by omega) (by simp [hc]) ⟨x, ?_, hn⟩
      rw [vR hil] at hx
      rcases List.mem_cons.1 hx with rfl | hx
      · exact absurd hin hn
      · exact hx
    · have h2 : (decide (l[i] < 0) || decide (l[i] > 15)) = true := by
        unfold YP at hin; simp; omega
      rw [h2, cond_true]
      exact ⟨_, rfl⟩
theorem Q1 (K : Nat) (l : List Int) (hK : 320 < K) : (XG l → zD.m K l = .ok (XD l, true)) ∧ (¬ XG l → ∃ c, zD.m K l = .ok (c, false)) := by
  unfold zD.m
  have e0 : cs (l.take 0) = List.replicate 16 (0 : Int) := by simp [cs]; rfl
  constructor
  · intro ⟨h1, h2⟩
    have h3 : decide ((l.length : Int) > 320) = false := by simp only [decide_eq_false_iff_not]; omega
    rw [h3, cond_false, ← e0]
    have := Xt K l h1 l.length K 0 (by omega) (by omega) (by simpa using h2)
    rw [show ((0 : Nat) : Int) = 0 from rfl] at this
    rw [this, zD.j2]
    simp only [qQ]
    rfl
  · intro hn
    by_cases h1 : l.length ≤ 320
    · have h3 : decide ((l.length : Int) > 320) = false := by simp only [decide_eq_false_iff_not]; omega
      rw [h3, cond_false]
      have hb : ∃ x ∈ l.drop 0, ¬ YP x := by
        apply Classical.byContradiction
        intro hno
        refine hn ⟨h1, fun x hx => Classical.byContradiction fun hx2 => hno ⟨x, by simpa using hx, hx2⟩⟩
      obtain ⟨c, hc⟩ := Q8 K l h1 l.length K 0 (List.replicate 16 0) (by omega) (by omega) (by simp) hb
      exact ⟨c, hc⟩
    · have h3 : decide ((l.length : Int) > 320) = true := by simp only [decide_eq_true_eq]; omega
      rw [h3, cond_true]
      exact ⟨_, rfl⟩
end Go.Pu

namespace Go.Pu
open Go Go.Sl Go.Mo
def c0 (l : List Int) (n : Nat) : Nat := if n = 0 then 0 else l.count (n : Int)
def ks (l : List Int) : Nat → Nat
  | 0 => 0
  | i + 1 => ks l i + c0 l i * 2 ^ (15 - i)
def nz (l : List Int) : List Int := l.filter fun x => decide (0 < x)
def zW (l : List Int) : Int := if XG l then (if nz l = [] ∨ nz l = [1] ∨ ks l 16 = 32768 then 0 else 3) else 1
theorem Xp {l : List Int} (h : l.length ≤ 320) (n : Nat) : c0 l n ≤ 320 := by
  unfold c0
  split
  · omega
  · exact Nat.le_trans List.count_le_length h
theorem JS {l : List Int} (h : l.length ≤ 320) : ∀ i, ks l i ≤ i * 10485760
  | 0 => by simp [ks]
  | i + 1 => by
    have h1 := JS h i
    have h2 : c0 l i * 2 ^ (15 - i) ≤ 320 * 2 ^ 15 := Nat.mul_le_mul (Xp h i) (Nat.pow_le_pow_right (by decide) (by omega))
    rw [ks]; omega
theorem X7 {l : List Int} {n : Nat} (h : n < 16) : rd (XD l) (n : Int) = (c0 l n : Int) := by
  rw [yb (by rw [Vv]; exact h)]
  simp only [XD, c0, List.getElem_map, List.getElem_range]
  split <;> rfl
theorem v3 (K : Nat) (l : List Int) (hl : l.length ≤ 320) : ∀ j k, j ≤ 16 → j < k → zO.l1 K (XD l) k (ks l (16 - j) : Int) ((16 - j : Nat) : Int) = zO.j2 K (XD l) (ks l 16 : Int)
  | _, 0, _, h => by omega
  | 0, k + 1, _, _ => by
    rw [zO.l1]
    rfl
  | j + 1, k + 1, hj, hk => by
    rw [zO.l1]
    generalize hi : 16 - (j + 1) = i
    have hil : i < 16 := by omega
    have h1 : decide ((i : Int) < 16) = true := by simp only [decide_eq_true_eq]; omega
    have h2 : decide ((0 : Int) ≤ (i : Int)) = true := decide_eq_true (Int.natCast_nonneg _)
    rw [h1, cond_true, zG hil, h2]
    simp only [qv, qQ, X7 hil]
    have e1 : zR .i64 (32768 : Int) (i : Int) = ((2 ^ (15 - i) : Nat) : Int) := by
      rw [show (32768 : Int) = ((32768 : Nat) : Int) from rfl, yQ (k := .i64) (by show i ≤ 64; omega)]
      congr 1
      rw [show (32768 : Nat) = 2 ^ (15 - i) * 2 ^ i by rw [← Nat.pow_add, show 15 - i + i = 15 by omega], Nat.mul_div_cancel _ (Nat.two_pow_pos i)]
    have hb := JS hl i
    have hb2 := JS hl (i + 1)
    have hm : c0 l i * 2 ^ (15 - i) ≤ 320 * 2 ^ 15 := Nat.mul_le_mul (Xp hl i) (Nat.pow_le_pow_right (by decide) (by omega))
    have e2 : qk ((c0 l i : Int) * ((2 ^ (15 - i) : Nat) : Int)) = ((c0 l i * 2 ^ (15 - i) : Nat) : Int) := by
      rw [← Int.natCast_mul, qK (by omega) (by omega)]
    have e3 : qk ((ks l i : Int) + ((c0 l i * 2 ^ (15 - i) : Nat) : Int)) = (ks l (i + 1) : Int) := by
      have e : (ks l i : Int) + ((c0 l i * 2 ^ (15 - i) : Nat) : Int) = (ks l (i + 1) : Int) := by rw [ks]; push_cast; rfl
      rw [e, qK (by omega) (by omega)]
    have e4 : qk ((i : Int) + 1) = ((i + 1 : Nat) : Int) := by rw [qK (by omega) (by omega)]; push_cast; rfl
    simp only [e1, e2, e3, e4]
    have := v3 K l hl j k (by omega) (by omega)
    rw [show 16 - j = i + 1 by omega] at this
    exact this
theorem VF (x : Int) (l : List Int) : nz (x :: l) = if 0 < x then x :: nz l else nz l := by
  simp [nz, List.filter_cons]
theorem Vo (x : Int) (l : List Int) (n : Nat) : c0 (x :: l) n = c0 l n + (if 0 < n ∧ x = n then 1 else 0) := by
  unfold c0
  by_cases h : n = 0
  · subst h; simp
  · have : 0 < n := by omega
    simp only [h, if_false, List.count_cons, this, true_and]
    by_cases hx : x = (n : Int) <;> simp [hx]
theorem Zq (x : Int) (l : List Int) : ∀ i, ks (x :: l) i = ks l i + (if 0 < x ∧ x < i then 2 ^ (15 - x.toNat) else 0)
  | 0 => by simp [ks]; omega
  | i + 1 => by
    rw [ks, ks, Zq x l i, Vo]
    by_cases hx : x = (i : Int)
    · subst hx
      by_cases h0 : 0 < i
      · have h1 : (0 : Int) < (i : Int) := by omega
        have h2 : ¬ ((i : Int) < (i : Int)) := by omega
        have h3 : (i : Int) < ((i + 1 : Nat) : Int) := by omega
        simp only [h0, h1, h2, h3, and_true, and_false, if_true, if_false, Int.toNat_natCast]
        rw [Nat.add_mul, Nat.one_mul]; omega
      · have : i = 0 := by omega
        subst this; simp
    · have h1 : ¬ (0 < i ∧ x = (i : Int)) := fun h => hx h.2
      rw [if_neg h1]
      by_cases h2 : 0 < x ∧ x < (i : Int)
      · have h3 : 0 < x ∧ x < ((i + 1 : Nat) : Int) := by omega
        rw [if_pos h2, if_pos h3]; simp only [Nat.add_zero]; omega
      · have h3 : ¬ (0 < x ∧ x < ((i + 1 : Nat) : Int)) := by omega
        rw [if_neg h2, if_neg h3]; simp only [Nat.add_zero]
theorem JN {x : Int} {l : List Int} (h : XG (x :: l)) : YP x ∧ XG l := ⟨h.2 x (by simp), by have := h.1; simp at this; omega, fun y hy => h.2 y (by simp [hy])⟩
theorem ZC : ∀ {l : List Int}, XG l → (ks l 16 = 0 ↔ nz l = [])
  | [], _ => by simp [nz]; rfl
  | x :: l, h => by
    obtain ⟨⟨hx0, hx1⟩, hl⟩ := JN h
    rw [Zq, VF]
    by_cases hx : 0 < x
    · have h2 : 0 < x ∧ x < ((16 : Nat) : Int) := by omega
      have := Nat.two_pow_pos (15 - x.toNat)
      rw [if_pos h2, if_pos hx]
      constructor
      · intro h; omega
      · intro h; cases h
    · have h2 : ¬ (0 < x ∧ x < ((16 : Nat) : Int)) := by omega
      rw [if_neg h2, if_neg hx, Nat.add_zero]
      exact ZC hl
theorem QF {l : List Int} {n : Nat} (hn : 0 < n) : (nz l).count (n : Int) = l.count (n : Int) := by
  unfold nz
  rw [List.count_filter]
  simp; omega
theorem VP {l : List Int} (h : XG l) : XD l = [0, 1, 0, 0, 0, 0, 0, 0, 0, 0, 0, 0, 0, 0, 0, 0] ↔ nz l = [1] := by
  constructor
  · intro hc
    have hcount : ∀ n : Nat, 0 < n → n < 16 → (nz l).count (n : Int) = if n = 1 then 1 else 0 := by
      intro n h0 h1
      have h2 : rd (XD l) (n : Int) = (c0 l n : Int) := X7 h1
      rw [hc] at h2
      rw [QF h0]
      have h3 : c0 l n = l.count (n : Int) := by unfold c0; rw [if_neg (by omega)]
      rw [← h3]
      have h4 : ∀ m : Nat, m < 16 → 0 < m → rd [(0 : Int), 1, 0, 0, 0, 0, 0, 0, 0, 0, 0, 0, 0, 0, 0, 0] (m : Int) = if m = 1 then 1 else 0 := by decide
      rw [h4 n h1 h0] at h2
      by_cases hh : n = 1
      · rw [if_pos hh] at h2 ⊢; omega
      · rw [if_neg hh] at h2 ⊢; omega
    have hall : ∀ x ∈ nz l, x = 1 := by
      intro x hx
      have hx' := List.mem_filter.1 hx
      have h0 : 0 < x := by simpa using hx'.2
      have h1 := (h.2 x hx'.1).2
      obtain ⟨m, hm⟩ := Int.eq_ofNat_of_zero_le (by omega : 0 ≤ x)
      have h2 := hcount m (by omega) (by omega)
      have h3 : 0 < (nz l).count (m : Int) := List.count_pos_iff.2 (hm ▸ hx)
      split at h2 <;> omega
    have h1 := hcount 1 (by omega) (by omega)
    simp only [if_true] at h1
    have h2 : (nz l).length = 1 := by
      have : (nz l).count (1 : Int) = (nz l).length := List.count_eq_length.2 fun b hb => (hall b hb).symm
      rw [← this]; exact h1
    match hn : nz l, h2 with
    | [y], _ => rw [hall y (by rw [hn]; simp)]
  · intro hn
    have h3 : ∀ j ∈ List.range 16, (if j = 0 then (0 : Int) else ((l.count (j : Int) : Nat) : Int)) = if j = 1 then 1 else 0 := by
      intro j _
      by_cases h0 : j = 0
      · subst h0; rfl
      · rw [if_neg h0, ← QF (by omega), hn]
        by_cases h1 : j = 1
        · subst h1; rfl
        · simp [h1, List.count_cons]; omega
    unfold XD
    rw [List.map_congr_left h3]
    rfl
theorem Y5 (K : Nat) (l : List Int) (hK : 320 < K) : zO.m K l = .ok (zW l) := by
  unfold zO.m zW
  obtain ⟨h1, h2⟩ := Q1 K l hK
  by_cases h : XG l
  · rw [h1 h, if_pos h]
    simp only [qW.bind_ok, Bool.not_true, cond_false]
    have := v3 K l h.1 16 K (by omega) (by omega)
    rw [Nat.sub_self] at this
    refine (show zO.l1 K (XD l) K (0 : Int) (0 : Int) = _ from this).trans ?_
    unfold zO.j2
    have e1 : ((ks l 16 : Int) == 0) = decide (nz l = []) := by
      rw [Bool.eq_iff_iff]; simp only [beq_iff_eq, decide_eq_true_eq]; rw [← ZC h]; omega
    have e2 : (XD l == ([0, (1 : Int), 0, 0, 0, 0, 0, 0, 0, 0, 0, 0, 0, 0, 0, 0] : List Int)) = decide (nz l = [1]) := by
      rw [Bool.eq_iff_iff]; simp only [beq_iff_eq, decide_eq_true_eq]; exact VP h
    have e3 : ((ks l 16 : Int) == 32768) = decide (ks l 16 = 32768) := by
      rw [Bool.eq_iff_iff]; simp only [beq_iff_eq, decide_eq_true_eq]; omega
    rw [e1, e2, e3]
    by_cases a : nz l = [] <;> by_cases b : nz l = [1] <;> by_cases c : ks l 16 = 32768 <;> simp [a, b, c]
  · obtain ⟨c, hc⟩ := h2 h
    rw [hc, if_neg h]
    rfl
end Go.Pu

namespace Go.Pu
open Go Go.Sl Go.Mo
end Go.Pu

namespace Go.Pu
open Go Go.Sl Go.Mo
def vd (l : List Int) : Nat → Nat
  | 0 => 0
  | n + 1 => 2 * (vd l n + c0 l n)
def yI (l : List Int) (i : Nat) : Nat := if 0 < l.getD i 0 then vd l (l.getD i 0).toNat + (l.take i).count (l.getD i 0) else 0
def zE (l : List Int) : List Int := (List.range l.length).map fun (i : Nat) => (yI l i : Int)
def KU (l : List Int) (n i : Nat) : List Int := (List.range l.length).map fun (j : Nat) =>
  if (0 < l.getD j 0 ∧ l.getD j 0 < (n : Int)) ∨ (l.getD j 0 = (n : Int) ∧ j < i) then (yI l j : Int) else 0
theorem XK {l : List Int} (h : l.length ≤ 320) : ∀ n, vd l n + 640 ≤ 640 * 2 ^ n
  | 0 => by simp [vd]
  | n + 1 => by
    have := XK h n
    have h2 := Xp h n
    rw [vd, Nat.pow_succ]; omega
theorem xu {l : List Int} {i : Nat} (h : i < l.length) : l.getD i 0 = l[i] := by simp [List.getD, List.getElem?_eq_getElem h]
theorem Qu {l : List Int} {n : Nat} (h : 0 < n) : c0 l n = l.count (n : Int) := by unfold c0; rw [if_neg (by omega)]
end Go.Pu

namespace Go.Pu
open Go Go.Sl Go.Mo
def idx (l : List Int) (n i : Nat) : List Int := ((List.range i).filter fun j => decide (l.getD j 0 = (n : Int))).map fun (j : Nat) => (j : Int)
def xX (l : List Int) : Nat → List Int
  | 0 => []
  | n + 1 => if n = 0 then [] else xX l n ++ idx l n l.length
theorem Qq (l : List Int) (n i : Nat) : idx l n (i + 1) = if l.getD i 0 = (n : Int) then idx l n i ++ [(i : Int)] else idx l n i := by
  unfold idx
  rw [List.range_succ, List.filter_append, List.map_append, List.filter_cons]
  by_cases h : l.getD i 0 = (n : Int)
  · rw [if_pos (by simpa using h), if_pos h]; simp
  · rw [if_neg (by simpa using h), if_neg h]; simp
theorem xa {l : List Int} (h : zW l = 0) : XG l := by
  apply Classical.byContradiction
  intro hn
  unfold zW at h
  rw [if_neg hn] at h; omega
end Go.Pu

namespace Go.Pu
open Go Go.Sl Go.Mo
theorem y9 (l : List Int) (n : Nat) : ∀ i, i ≤ l.length → (idx l n i).length = (l.take i).count (n : Int)
  | 0, _ => by simp [idx]
  | i + 1, h => by
    have hil : i < l.length := by omega
    rw [Qq, jf hil, List.count_append, xu hil]
    have IH := y9 l n i (by omega)
    by_cases hx : l[i] = (n : Int)
    · rw [if_pos hx, List.length_append, IH, hx]; simp
    · rw [if_neg hx, IH]
      have : List.count (n : Int) [l[i]] = 0 := by
        rw [List.count_eq_zero]; simp; exact fun h => hx h.symm
      omega
theorem Qi (l : List Int) (n : Nat) {i : Nat} : ∀ j, i ≤ j → idx l n i <+: idx l n j
  | 0, h => by
    have : i = 0 := by omega
    subst this; exact List.prefix_refl _
  | j + 1, h => by
    by_cases hij : i = j + 1
    · subst hij; exact List.prefix_refl _
    · refine (Qi l n j (by omega)).trans ?_
      rw [Qq]
      split
      · exact List.prefix_append _ _
      · exact List.prefix_refl _
theorem Zf {l : List Int} {n i : Nat} (h : i < l.length) (hi : l[i] = (n : Int)) : (idx l n l.length)[(l.take i).count (n : Int)]? = some (i : Int) := by
  obtain ⟨r, hr⟩ := Qi l n (i := i + 1) l.length (by omega)
  rw [← hr, Qq, xu h, if_pos hi, ← y9 l n i (by omega), List.append_assoc, List.getElem?_append_right (Nat.le_refl _), Nat.sub_self]
  rfl
theorem VO {l : List Int} {n : Nat} {x : Int} (h : x ∈ idx l n l.length) : ∃ i : Nat, x = i ∧ ∃ hi : i < l.length, l[i] = (n : Int) := by
  obtain ⟨i, hi, rfl⟩ := List.mem_map.1 h
  have h2 := List.mem_filter.1 hi
  have h3 := List.mem_range.1 h2.1
  exact ⟨i, rfl, h3, by have := h2.2; rw [xu h3] at this; simpa using this⟩
theorem YI (l : List Int) (n : Nat) : (idx l n l.length).Nodup := by
  unfold idx
  refine List.Pairwise.map _ (fun a b hab => by omega) (List.Pairwise.filter _ (List.nodup_range (n := l.length)))
theorem VC {l : List Int} {n r : Nat} (h : r < l.count (n : Int)) : ∃ i : Nat, (idx l n l.length)[r]? = some (i : Int) ∧ ∃ hi : i < l.length, l[i] = (n : Int) ∧ (l.take i).count (n : Int) = r := by
  have hlen : (idx l n l.length).length = l.count (n : Int) := by rw [y9 l n l.length (Nat.le_refl _), List.take_length]
  have hr : r < (idx l n l.length).length := by omega
  obtain ⟨i, hx, hi, hl⟩ := VO (List.getElem_mem hr)
  refine ⟨i, by rw [List.getElem?_eq_getElem hr, hx], hi, hl, ?_⟩
  have h1 := Zf hi hl
  have h2 : (l.take i).count (n : Int) < (idx l n l.length).length := (List.getElem?_eq_some_iff.1 h1).1
  have h3 := (List.getElem?_eq_some_iff.1 h1).2
  have hp := List.pairwise_iff_getElem.1 (YI l n)
  have he : (idx l n l.length)[(l.take i).count (n : Int)] = (idx l n l.length)[r] := h3.trans hx.symm
  rcases Nat.lt_trichotomy ((l.take i).count (n : Int)) r with h | h | h
  · exact absurd he (hp _ _ h2 hr h)
  · exact h
  · exact absurd he.symm (hp _ _ hr h2 h)
theorem ZJ (l : List Int) {n : Nat} (h : 0 < n) : (xX l (n + 1)).length = (xX l n).length + c0 l n := by
  rw [xX, if_neg (by omega), List.length_append, y9 l n l.length (Nat.le_refl _), List.take_length, Qu h]
theorem jN (l : List Int) {n : Nat} : ∀ m, n ≤ m → 0 < n → xX l n <+: xX l m
  | 0, h, h0 => by omega
  | m + 1, h, h0 => by
    by_cases hnm : n = m + 1
    · subst hnm; exact List.prefix_refl _
    · refine (jN l m (by omega) h0).trans ?_
      rw [xX, if_neg (by omega)]
      exact List.prefix_append _ _
theorem VG {l : List Int} {n r : Nat} (hn : 0 < n) (hn16 : n < 16) (h : r < c0 l n) :
    ∃ i : Nat, (xX l 16)[(xX l n).length + r]? = some (i : Int) ∧ ∃ hi : i < l.length, l[i] = (n : Int) ∧ yI l i = vd l n + r := by
  rw [Qu hn] at h
  obtain ⟨i, h1, hi, hl, hc⟩ := VC h
  refine ⟨i, ?_, hi, hl, ?_⟩
  · obtain ⟨s, hs⟩ := jN l (n := n + 1) 16 (by omega) (by omega)
    have hr : r < (idx l n l.length).length := (List.getElem?_eq_some_iff.1 h1).1
    rw [← hs, xX, if_neg (by omega), List.append_assoc, List.getElem?_append_right (by omega), show (xX l n).length + r - (xX l n).length = r by omega, List.getElem?_append_left hr]
    exact h1
  · unfold yI
    rw [xu hi, hl, if_pos (by omega), Int.toNat_natCast, hc]
theorem XY {l : List Int} {i n : Nat} (hi : i < l.length) (hl : l[i] = (n : Int)) (hn : 0 < n) : yI l i < vd l n + c0 l n ∧ vd l n ≤ yI l i := by
  unfold yI
  rw [xu hi, hl, if_pos (by omega), Int.toNat_natCast]
  have h1 := Zf hi hl
  have h2 := (List.getElem?_eq_some_iff.1 h1).1
  rw [y9 l n l.length (Nat.le_refl _), List.take_length] at h2
  rw [Qu hn]; omega
theorem Vh {l : List Int} {i j n : Nat} (hi : i < l.length) (hj : j < l.length) (hli : l[i] = (n : Int)) (hlj : l[j] = (n : Int)) (hn : 0 < n) (h : yI l i = yI l j) : i = j := by
  unfold yI at h
  rw [xu hi, xu hj, hli, hlj, if_pos (by omega), if_pos (by omega)] at h
  have h1 := Zf hi hli
  have h2 := Zf hj hlj
  have h3 : (l.take i).count (n : Int) = (l.take j).count (n : Int) := by omega
  rw [h3, h2] at h1
  have := Option.some.inj h1
  omega
end Go.Pu

namespace Go.Pu
open Go Go.Sl Go.Mo
theorem V6 (l : List Int) : ∀ n, n ≤ 15 → (vd l n + c0 l n) * 2 ^ (15 - n) = ks l (n + 1)
  | 0, _ => by simp [vd, ks, c0]
  | n + 1, h => by
    have IH := V6 l n (by omega)
    rw [ks, ← IH, vd]
    have e : 2 ^ (15 - n) = 2 * 2 ^ (15 - (n + 1)) := by rw [← Nat.pow_succ']; congr 1; omega
    rw [e, Nat.add_mul]
    congr 1
    rw [← Nat.mul_assoc, Nat.mul_comm (vd l n + c0 l n) 2]
theorem Qh (l : List Int) {n m : Nat} (h : n ≤ m) (h0 : 0 < n) : (xX l n).length ≤ (xX l m).length := by
  obtain ⟨r, hr⟩ := jN l m h h0
  rw [← hr, List.length_append]; omega
theorem Z5 {l : List Int} (h : zW l = 0) : nz l = [] ∨ nz l = [1] ∨ ks l 16 = 32768 := by
  unfold zW at h
  rw [if_pos (xa (by unfold zW; exact h))] at h
  split at h
  · assumption
  · omega
theorem UZ {l : List Int} {n : Nat} (hn : 0 < n) : c0 l n = (nz l).count (n : Int) := by rw [Qu hn, QF hn]
theorem VJ {l : List Int} {i n m : Nat} (hnm : n < m) (hm : m < 16) (hi : i < l.length) (hl : l[i] = (m : Int)) : (xX l (n + 1)).length < (xX l 16).length := by
  have h1 := Qh l (n := n + 1) (m := m) (by omega) (by omega)
  have h2 := Qh l (n := m + 1) (m := 16) (by omega) (by omega)
  have h3 := ZJ l (n := m) (by omega)
  have h4 : 0 < c0 l m := by
    rw [Qu (by omega)]
    exact List.count_pos_iff.2 (hl ▸ List.getElem_mem hi)
  omega
end Go.Pu

namespace Go.Pu
open Go Go.Sl Go.Mo
def QH (l : List Int) (t : List UInt8) : Nat → Nat → Nat → Nat → Except Int (Nat × Nat)
  | 0, _, _, _ => .error 3
  | k + 1, n, v, p =>
    if (xX l (n + 1)).length < (xX l 16).length then
      if p + 1 ≤ 8 * t.length then
        if 2 * v + (ZL t p).toNat < vd l (n + 1) + c0 l (n + 1) then .ok (((xX l 16).getD ((xX l (n + 1)).length + (2 * v + (ZL t p).toNat) - vd l (n + 1)) 0).toNat, p + 1)
        else QH l t k (n + 1) (2 * v + (ZL t p).toNat) (p + 1)
      else .error 2
    else .error 3
def Zd (l : List Int) (t : List UInt8) (p : Nat) : Except Int (Nat × Nat) := QH l t 16 0 0 p
end Go.Pu

namespace Go.Pu
open Go Go.Sl Go.Mo
theorem Ql (l : List Int) : (zE l).length = l.length := by simp [zE]
def Kl (l : List Int) (n v i : Nat) : Prop := l.getD i 0 = (n : Int) ∧ 0 < n ∧ yI l i = v
def U9 (l : List Int) (n v i : Nat) : Prop := (n : Int) < l.getD i 0 ∧ yI l i / 2 ^ ((l.getD i 0).toNat - n) = v
instance (l : List Int) (n v i : Nat) : Decidable (Kl l n v i) := inferInstanceAs (Decidable (_ ∧ _))
instance (l : List Int) (n v i : Nat) : Decidable (U9 l n v i) := inferInstanceAs (Decidable (_ ∧ _))
theorem YO {l : List Int} (h : XG l) {i : Nat} (hi : i < l.length) : yI l i < 33554432 := by
  obtain ⟨h0, h1⟩ := h.2 l[i] (List.getElem_mem hi)
  obtain ⟨m, hm⟩ := Int.eq_ofNat_of_zero_le h0
  by_cases hm0 : m = 0
  · unfold yI
    rw [xu hi, hm, hm0, if_neg (by omega)]; omega
  · have := (XY hi hm (by omega)).1
    have h2 := XK h.1 m
    have h3 := Xp h.1 m
    have hp : 2 ^ m ≤ 2 ^ 15 := Nat.pow_le_pow_right (by decide) (by omega)
    omega
end Go.Pu

namespace Go.Pu
open Go Go.Sl Go.Mo
def KH (l : List Int) (t : List UInt8) (n v p : Nat) : Except Int (Nat × Nat) :=
  if 0 < n ∧ v < vd l n + c0 l n then .ok (((xX l 16).getD ((xX l n).length + v - vd l n) 0).toNat, p) else QH l t (16 - n) n v p
end Go.Pu

namespace Go.Pu
open Go Go.Sl Go.Mo
end Go.Pu

namespace Go.Pu
open Go Go.Sl Go.Mo
def QD (l : List Int) (n : Nat) : List Int := (List.range 16).map fun (j : Nat) => if 1 ≤ j ∧ j < n then (vd l j : Int) else 0
def vo (l : List Int) (v : Nat) : List Int := (List.range 16).map fun (j : Nat) => if j = 0 then 0 else ((vd l j + (l.take v).count (j : Int) : Nat) : Int)
def uL (l : List Int) (v : Nat) : List Int := (List.range l.length).map fun (j : Nat) => if j < v then (yI l j : Int) else 0
theorem YQ (l : List Int) (n : Nat) : (vo l n).length = 16 := by simp [vo]
theorem JK (l : List Int) (n : Nat) : (uL l n).length = l.length := by simp [uL]
theorem jw {α : Type} (f g : Nat → α) (m n : Nat) (x : α) (h1 : n < m → g n = x) (h2 : ∀ j, j ≠ n → g j = f j) : ((List.range m).map f).set n x = (List.range m).map g := by
  apply List.ext_getElem?
  intro j
  by_cases hj : n = j
  · subst hj
    by_cases hm : n < m
    · simp [hm, h1 hm]
    · rw [List.getElem?_eq_none (by simpa using hm), List.getElem?_eq_none (by simpa using hm)]
  · rw [List.getElem?_set_ne hj]
    simp only [List.getElem?_map]
    cases h : (List.range m)[j]? with
    | none => rfl
    | some y =>
      obtain ⟨_, hy⟩ := List.getElem?_eq_some_iff.1 h
      simp at hy
      subst hy
      simp [h2 j (fun e => hj e.symm)]
theorem YH (K : Nat) (l : List Int) (hl : l.length ≤ 320) : ∀ (k n : Nat), 1 ≤ n → n ≤ 16 → 16 < n + k →
    zg.l1 K (XD l) k (QD l n) (vd l (n - 1) : Int) (n : Int) = .ok (QD l 16) := by
  intro k
  induction k with
  | zero => intro n h1 h2 h3; omega
  | succ k ih =>
    intro n h1 h2 h3
    unfold zg.l1
    by_cases h : n ≤ 15
    · have d1 : decide ((n : Int) ≤ (15 : Int)) = true := by simp only [decide_eq_true_eq]; omega
      have e1 : qk ((n : Int) - 1) = ((n - 1 : Nat) : Int) := by rw [qK (by omega) (by omega)]; omega
      have hf := XK hl (n - 1)
      have hc := Xp hl (n - 1)
      have hp : 2 ^ (n - 1) ≤ 2 ^ 14 := Nat.pow_le_pow_right (by decide) (by omega)
      have e2 : qk ((vd l (n - 1) : Int) + (c0 l (n - 1) : Int)) = ((vd l (n - 1) + c0 l (n - 1) : Nat) : Int) := by rw [qK (by omega) (by omega)]; rfl
      have e3 : zV .i64 ((vd l (n - 1) + c0 l (n - 1) : Nat) : Int) 1 = (vd l n : Int) := by
        have := jA (a := vd l (n - 1) + c0 l (n - 1)) (n := 1) (by omega) (by omega)
        rw [show ((1 : Nat) : Int) = 1 from rfl] at this
        rw [this, show vd l n = 2 * (vd l (n - 1) + c0 l (n - 1)) by
          obtain ⟨m, rfl⟩ : ∃ m, n = m + 1 := ⟨n - 1, by omega⟩
          rfl, Nat.mul_comm]
      have e4 : qk ((n : Int) + 1) = ((n + 1 : Nat) : Int) := by rw [qK (by omega) (by omega)]; rfl
      rw [d1, cond_true, e1, zG (show n - 1 < 16 by omega), qv, X7 (show n - 1 < 16 by omega), e2, e3]
      simp only [qQ]
      rw [zG (show n < 16 by omega), qv, e4]
      have := ih (n + 1) (by omega) (by omega) (by omega)
      rw [Nat.add_sub_cancel] at this
      rw [Int.toNat_natCast, QD, jw _ (fun (j : Nat) => if 1 ≤ j ∧ j < n + 1 then (vd l j : Int) else 0) 16 n _ (fun _ => by rw [if_pos (by omega)]) (fun j hj => by
        by_cases q : 1 ≤ j ∧ j < n
        · rw [if_pos q, if_pos (by omega)]
        · rw [if_neg q, if_neg (by omega)])]
      exact this
    · have d1 : decide ((n : Int) ≤ (15 : Int)) = false := by simp only [decide_eq_false_iff_not]; omega
      rw [d1, cond_false, show n = 16 by omega]
      rfl
theorem Ur (K : Nat) (l : List Int) (hl : l.length ≤ 320) (hK : 32 < K) : zg.m K (XD l) = .ok (vo l 0) := by
  unfold zg.m
  have := YH K l hl K 1 (by omega) (by omega) (by omega)
  rw [show QD l 1 = List.replicate 16 0 by
    apply List.ext_getElem?
    intro j
    simp only [QD, List.getElem?_map, List.getElem?_replicate]
    by_cases hj : j < 16
    · rw [List.getElem?_range hj, if_pos hj, Option.map_some, if_neg (by omega)]
    · rw [List.getElem?_eq_none (by simpa using hj), if_neg hj]; rfl] at this
  rw [show vd l (1 - 1) = 0 from rfl, show ((0 : Nat) : Int) = 0 from rfl, show ((1 : Nat) : Int) = 1 from rfl] at this
  rw [this]
  congr 1
theorem Zx (K : Nat) (l : List Int) (hok : XG l) : ∀ (k v : Nat), v ≤ l.length → l.length < v + k → xk.l1 K l k (vo l v) (uL l v) (v : Int) = .ok (zE l, 0) := by
  intro k
  induction k with
  | zero => intro v h1 h2; omega
  | succ k ih =>
    intro v h1 h2
    have hl := hok.1
    unfold xk.l1
    by_cases h : v < l.length
    · have d1 : decide ((v : Int) < (l.length : Int)) = true := by simp only [decide_eq_true_eq]; omega
      have e1 : qk ((v : Int) + 1) = ((v + 1 : Nat) : Int) := by rw [qK (by omega) (by omega)]; rfl
      obtain ⟨hx0, hx1⟩ := hok.2 l[v] (List.getElem_mem h)
      have ht : l.take (v + 1) = l.take v ++ [l[v]] := by rw [List.take_add_one, List.getElem?_eq_getElem h]; rfl
      have hg : l.getD v 0 = l[v] := xu h
      have IH := ih (v + 1) (by omega) (by omega)
      rw [d1, cond_true, zG h, qv]
      simp only [qQ, yb h, e1]
      obtain ⟨n, hn⟩ := Int.eq_ofNat_of_zero_le hx0
      by_cases hp : 0 < n
      · have d2 : decide (l[v] > (0 : Int)) = true := by simp only [decide_eq_true_eq]; omega
        have hcl := YO hok h
        have hcod : yI l v = vd l n + (l.take v).count (n : Int) := by unfold yI; rw [hg, if_pos (by omega), hn, Int.toNat_natCast]
        have e2 : rd (vo l v) (n : Int) = (yI l v : Int) := by
          rw [yb (by rw [YQ]; omega)]
          simp only [vo, List.getElem_map, List.getElem_range]
          rw [if_neg (by omega), hcod]
        have e3 : qk ((yI l v : Int) + 1) = ((yI l v + 1 : Nat) : Int) := by rw [qK (by omega) (by omega)]; rfl
        rw [d2, cond_true, hn, zG (show n < 16 by omega), qv, zG (by rw [JK]; exact h), qv, e2, e3]
        rw [Int.toNat_natCast, Int.toNat_natCast]
        rw [show (uL l v).set v (yI l v : Int) = uL l (v + 1) from jw _ _ _ _ _ (fun _ => by rw [if_pos (by omega)]) (fun j hj => by
          by_cases q : j < v
          · rw [if_pos q, if_pos (by omega)]
          · rw [if_neg q, if_neg (by omega)])]
        rw [show (vo l v).set n ((yI l v + 1 : Nat) : Int) = vo l (v + 1) from jw _ _ _ _ _ (fun _ => by
          rw [if_neg (by omega), ht, List.count_append, hcod, hn]; simp; omega) (fun j hj => by
          by_cases q : j = 0
          · rw [if_pos q, if_pos q]
          · rw [if_neg q, if_neg q, ht, List.count_append, hn]
            rw [List.count_singleton, if_neg (by simpa using fun e => hj (by omega))]; rfl)]
        exact IH
      · have d2 : decide (l[v] > (0 : Int)) = false := by simp only [decide_eq_false_iff_not]; omega
        rw [d2, cond_false]
        have h0 : l[v] = 0 := by omega
        rw [show vo l (v + 1) = vo l v by
          unfold vo
          apply List.map_congr_left
          intro j _
          by_cases q : j = 0
          · rw [if_pos q, if_pos q]
          · rw [if_neg q, if_neg q, ht, List.count_append, h0, List.count_singleton, if_neg (by simp; omega)]; rfl,
          show uL l (v + 1) = uL l v by
          unfold uL
          apply List.map_congr_left
          intro j _
          by_cases q : j < v
          · rw [if_pos q, if_pos (by omega)]
          · rw [if_neg q]
            by_cases q2 : j = v
            · subst q2
              rw [if_pos (by omega)]; unfold yI; rw [hg, h0, if_neg (by omega)]; rfl
            · rw [if_neg (by omega)]] at IH
        exact IH
    · have d1 : decide ((v : Int) < (l.length : Int)) = false := by simp only [decide_eq_false_iff_not]; omega
      rw [d1, cond_false]
      have : uL l v = zE l := by
        unfold uL zE
        apply List.map_congr_left
        intro j hj
        have : j < l.length := by simpa using hj
        rw [if_pos (by omega)]
      rw [this]
theorem Y0 (K : Nat) (l : List Int) (hK : 320 < K) : xk.m K l = if zW l = 0 then .ok (zE l, 0) else .ok ([], zW l) := by
  unfold xk.m
  rw [Y5 K l hK]
  simp only [qW.bind_ok]
  by_cases h : zW l = 0
  · have h1 : (zW l != 0) = false := by simpa using h
    have hok := xa h
    have hl := hok.1
    rw [h1, cond_false, if_pos h, (Q1 K l hK).1 hok]
    simp only [qW.bind_ok]
    rw [Ur K l hl (by omega)]
    simp only [qW.bind_ok, Int.toNat_natCast]
    have h2 : (decide (0 ≤ (l.length : Int)) && room l.length 8) = true := by
      rw [Bool.and_eq_true, decide_eq_true_eq]
      refine ⟨by omega, ?_⟩
      simp only [room, decide_eq_true_eq]; omega
    rw [h2, qv]
    simp only [qQ]
    have := Zx K l hok K 0 (by omega) (by omega)
    rw [show uL l 0 = List.replicate l.length 0 by
      apply List.ext_getElem?
      intro j
      simp only [uL, List.getElem?_map, List.getElem?_replicate]
      by_cases hj : j < l.length
      · rw [List.getElem?_range hj, if_pos hj, Option.map_some, if_neg (by omega)]
      · rw [List.getElem?_eq_none (by simpa using hj), if_neg hj]; rfl] at this
    exact this
  · have h1 : (zW l != 0) = true := by simpa using h
    rw [h1, cond_true, if_neg h]
end Go.Pu

namespace Go.Pu
open Go Go.Sl Go.Mo
theorem Ug (l : List Int) (n : Nat) : ∀ d, (vd l n + c0 l n) * 2 ^ (d + 1) ≤ vd l (n + d + 1) := by
  intro d
  induction d with
  | zero => rw [Nat.add_zero, vd]; omega
  | succ d ih =>
    rw [show n + (d + 1) + 1 = (n + d + 1) + 1 from rfl, vd, Nat.pow_succ, ← Nat.mul_assoc]
    omega
end Go.Pu

namespace Go.Pu
open Go Go.Sl Go.Mo
def ze : Nat → Nat → List Int
  | 0, _ => []
  | n + 1, v => ((v % 2 : Nat) : Int) :: ze n (v / 2)
theorem zN : ∀ n v, (ze n v).length = n
  | 0, _ => rfl
  | n + 1, v => by rw [ze, List.length_cons, zN n]
def xe (B : List Int) : Prop := ∀ b ∈ B, b = 0 ∨ b = 1
theorem zY : ∀ n v, xe (ze n v)
  | 0, _ => by intro b hb; cases hb
  | n + 1, v => by
    intro b hb
    rw [ze] at hb
    rcases List.mem_cons.1 hb with rfl | hb
    · omega
    · exact zY n _ b hb
theorem zB {a b : List Int} (h1 : xe a) (h2 : xe b) : xe (a ++ b) := by
  intro x hx
  rcases List.mem_append.1 hx with h | h
  · exact h1 x h
  · exact h2 x h
theorem vM : ∀ n m v, ze (n + m) v = ze n v ++ ze m (v / 2 ^ n)
  | 0, m, v => by simp [ze]
  | n + 1, m, v => by
    rw [show n + 1 + m = (n + m) + 1 by omega, ze, ze, vM n m, List.cons_append, Nat.div_div_eq_div_mul, ← Nat.pow_succ']
theorem Qk : ∀ n v k, n ≤ k → ze n (v % 2 ^ k) = ze n v
  | 0, _, _, _ => rfl
  | n + 1, v, k, h => by
    obtain ⟨j, rfl⟩ : ∃ j, k = j + 1 := ⟨k - 1, by omega⟩
    rw [ze, ze]
    have e1 : v % 2 ^ (j + 1) % 2 = v % 2 := by rw [Nat.pow_succ']; exact Nat.mod_mul_right_mod v 2 (2 ^ j)
    have e2 : v % 2 ^ (j + 1) / 2 = v / 2 % 2 ^ j := by rw [Nat.pow_succ', Nat.mod_mul_right_div_self]
    rw [e1, e2, Qk n _ j (by omega)]
def nB (B : List Int) (p : Nat) : Nat → Nat
  | 0 => 0
  | n + 1 => nB B p n + (B.getD (p + n) 0).toNat * 2 ^ n
theorem uZ {B : List Int} (h : xe B) (i : Nat) : B.getD i 0 = 0 ∨ B.getD i 0 = 1 := by
  by_cases hi : i < B.length
  · rw [xu hi]; exact h _ (List.getElem_mem hi)
  · left
    rw [List.getD_eq_getElem?_getD, List.getElem?_eq_none (by omega)]; rfl
theorem ZY {B : List Int} (h : xe B) (p : Nat) : ∀ n, nB B p n < 2 ^ n
  | 0 => by simp [nB]
  | n + 1 => by
    have := ZY h p n
    rw [nB, Nat.pow_succ]
    rcases uZ h (p + n) with h1 | h1 <;> rw [h1] <;> simp <;> omega
theorem v7 {B : List Int} (p : Nat) : ∀ n m, n ≤ m → B.length ≤ p + n → nB B p m = nB B p n
  | n, 0, h, _ => by
    have : n = 0 := by omega
    rw [this]
  | n, m + 1, h, hl => by
    by_cases hn : n = m + 1
    · rw [hn]
    · rw [nB, v7 p n m (by omega) hl, List.getD_eq_getElem?_getD, List.getElem?_eq_none (by omega)]
      simp
theorem Yx {B : List Int} (h : xe B) (p : Nat) : ∀ n j, (nB B p n).testBit j = (decide (j < n) && (B.getD (p + j) 0 == 1))
  | 0, j => by simp [nB]
  | n + 1, j => by
    have hlt := ZY h p n
    have e : nB B p (n + 1) = 2 ^ n * (B.getD (p + n) 0).toNat + nB B p n := by rw [nB, Nat.mul_comm]; omega
    rw [e, Nat.testBit_two_pow_mul_add _ hlt]
    split
    · rename_i hj
      rw [Yx h p n j]
      simp [hj, show j < n + 1 by omega]
    · rename_i hj
      by_cases hjn : j = n
      · subst hjn
        rcases uZ h (p + j) with h1 | h1 <;> rw [h1] <;> simp
      · have h1 : ¬ j < n + 1 := by omega
        have : (1 : Nat) < 2 ^ (j - n) := Nat.one_lt_two_pow (by omega)
        rcases uZ h (p + n) with h2 | h2
        · rw [h2]; simp [h1]
        · rw [h2]
          simp only [h1, decide_false, Bool.false_and]
          exact Nat.testBit_lt_two_pow this
def xW (B : List Int) : List UInt8 := (List.range ((B.length + 7) / 8)).map fun j => UInt8.ofNat (nB B (8 * j) 8)
theorem uu (B : List Int) : (xW B).length = (B.length + 7) / 8 := by simp [xW]
theorem Q3 {B : List Int} (h : xe B) {i : Nat} (hi : i < B.length) : ZL (xW B) i = (B.getD i 0 == 1) := by
  unfold ZL
  have hj : i / 8 < (xW B).length := by rw [uu]; omega
  have e : (xW B).getD (i / 8) 0 = UInt8.ofNat (nB B (8 * (i / 8)) 8) := by
    rw [List.getD_eq_getElem?_getD, List.getElem?_eq_getElem hj]
    simp [xW]
  have hlt := ZY h (8 * (i / 8)) 8
  rw [e, ofNat_toNat' hlt, Yx h]
  rw [show 8 * (i / 8) + i % 8 = i by omega]
  simp [Nat.mod_lt]
where ofNat_toNat' {n : Nat} (h : n < 2 ^ 8) : (UInt8.ofNat n).toNat = n := by simp; omega
theorem Vt {a n : Nat} (hn : n ≤ 8) (h : a * 2 ^ n < 256) : zV .u8 (a : Int) (n : Int) = ((a * 2 ^ n : Nat) : Int) := by
  unfold zV
  rw [Int.toNat_natCast, show min n IntKind.u8.bits = n from Nat.min_eq_left hn]
  have e : (a : Int) * 2 ^ n = ((a * 2 ^ n : Nat) : Int) := by push_cast; rfl
  rw [e]
  exact Zp (by omega) (by omega)
theorem XP (A B : List Int) (p : Nat) : ∀ n, nB (A ++ B) (A.length + p) n = nB B p n
  | 0 => rfl
  | n + 1 => by
    rw [nB, nB, XP A B p n, Nat.add_assoc, List.getD_eq_getElem?_getD, List.getD_eq_getElem?_getD, List.getElem?_append_right (by omega), Nat.add_sub_cancel_left]
theorem Q5 (R : List Int) : ∀ n v, nB (ze n v ++ R) 0 n = v % 2 ^ n := by
  have key : ∀ n v k, k ≤ n → nB (ze n v ++ R) 0 k = v % 2 ^ k := by
    intro n v k
    induction k with
    | zero => intro _; simp [nB, Nat.mod_one]
    | succ k ih =>
      intro h
      rw [nB, ih (by omega), Nat.zero_add]
      have e : (ze n v ++ R).getD k 0 = ((v / 2 ^ k % 2 : Nat) : Int) := by
        rw [show n = k + (n - k) by omega, vM, List.append_assoc, List.getD_eq_getElem?_getD, List.getElem?_append_right (by rw [zN]; omega), zN, Nat.sub_self, show n - k = (n - k - 1) + 1 by omega, ze]
        rfl
      rw [e, Int.toNat_natCast, Nat.mod_pow_succ, Nat.mul_comm]
  intro n v
  exact key n v n (Nat.le_refl _)
end Go.Pu

namespace Go.Pu
open Go Go.Sl Go.Mo
def x9 (B : List Int) : List Int := (List.range ((B.length + 7) / 8)).map fun j => ((nB B (8 * j) 8 : Nat) : Int)
theorem jE (B : List Int) : (x9 B).length = (B.length + 7) / 8 := by simp [x9]
theorem VS {B : List Int} {j : Nat} (h : j < (B.length + 7) / 8) : rd (x9 B) (j : Int) = ((nB B (8 * j) 8 : Nat) : Int) := by
  rw [yb (by rw [jE]; exact h)]
  simp [x9]
theorem YG (B : List Int) : (x9 B).map ZX = xW B := by
  unfold x9 xW
  rw [List.map_map]
  apply List.map_congr_left
  intro j _
  simp [ZX]
theorem Zo (A C : List Int) (p : Nat) : ∀ n, p + n ≤ A.length → nB (A ++ C) p n = nB A p n
  | 0, _ => rfl
  | n + 1, h => by
    rw [nB, nB, Zo A C p n (by omega), List.getD_eq_getElem?_getD, List.getD_eq_getElem?_getD, List.getElem?_append_left (by omega)]
theorem UP (p : Nat) (hp : p < 9223372036854775808) : xh .i64 (p : Int) 7 = ((p % 8 : Nat) : Int) := by
  have := Xo (a := p) (b := 7) hp (by omega)
  rw [show ((7 : Nat) : Int) = 7 from rfl] at this
  rw [this, show p &&& 7 = p % 8 from Nat.and_two_pow_sub_one_eq_mod p 3]
theorem Ux {a b : Nat} (ha : a < 256) (hb : b < 256) : VR .u8 (a : Int) (b : Int) = ((a ||| b : Nat) : Int) := by
  show IntKind.u8.wrap ((BitVec.ofInt 8 (a : Int) ||| BitVec.ofInt 8 (b : Int)).toNat : Int) = _
  simp only [ul, BitVec.toNat_or, BitVec.toNat_ofNat]
  rw [Nat.mod_eq_of_lt (by omega), Nat.mod_eq_of_lt (by omega)]
  have : a ||| b < 2 ^ 8 := Nat.or_lt_two_pow (by omega) (by omega)
  exact Zp (by omega) (by omega)
def cb : Nat → Nat → List Int
  | 0, _ => []
  | n + 1, c => ((c / 2 ^ n % 2 : Nat) : Int) :: cb n c
theorem ui : ∀ n c, (cb n c).length = n
  | 0, _ => rfl
  | n + 1, c => by rw [cb, List.length_cons, ui n]
theorem Jf : ∀ n c, xe (cb n c)
  | 0, _ => by intro b hb; cases hb
  | n + 1, c => by
    intro b hb
    rw [cb] at hb
    rcases List.mem_cons.1 hb with rfl | hb
    · omega
    · exact Jf n c b hb
theorem V9 (l : List Int) (i : Nat) : ∀ d, ks l i ≤ ks l (i + d)
  | 0 => Nat.le_refl _
  | d + 1 => Nat.le_trans (V9 l i d) (by rw [← Nat.add_assoc, ks]; exact Nat.le_add_right _ _)
theorem Ui {l : List Int} (h : zW l = 0) : ks l 16 ≤ 32768 := by
  rcases Z5 h with hz | hz | hz
  · rw [(ZC (xa h)).2 hz]; omega
  · have hc : ∀ i, c0 l i = if i = 1 then 1 else 0 := by
      intro i
      by_cases h0 : 0 < i
      · rw [UZ h0, hz, List.count_singleton]
        by_cases h1 : i = 1
        · subst h1; rfl
        · rw [if_neg h1, if_neg (by simp; omega)]
      · rw [show i = 0 by omega]; rfl
    have : ∀ i, ks l i = if i ≤ 1 then 0 else 16384 := by
      intro i
      induction i with
      | zero => rfl
      | succ i ih =>
        rw [ks, ih, hc]
        by_cases h1 : i = 1
        · subst h1; rfl
        · rw [if_neg h1]
          by_cases h2 : i ≤ 1
          · rw [if_pos h2, if_pos (by omega)]; omega
          · rw [if_neg h2, if_neg (by omega)]; omega
    rw [this]; decide
  · omega
theorem Yj {l : List Int} (h : zW l = 0) {s n : Nat} (hs : s < l.length) (hl : l[s] = (n : Int)) (hn : 0 < n) : yI l s < 2 ^ n := by
  have hok := xa h
  have hn15 : n ≤ 15 := by have := (hok.2 l[s] (List.getElem_mem hs)).2; omega
  have h1 := (XY hs hl hn).1
  have h2 := V6 l n hn15
  have h3 : ks l (n + 1) ≤ 32768 := by
    have := V9 l (n + 1) (15 - n)
    rw [show n + 1 + (15 - n) = 16 by omega] at this
    exact Nat.le_trans this (Ui h)
  have h4 : 2 ^ n * 2 ^ (15 - n) = 32768 := by rw [← Nat.pow_add, show n + (15 - n) = 15 by omega]
  have h5 : vd l n + c0 l n ≤ 2 ^ n := Nat.le_of_mul_le_mul_right (by omega) (Nat.pow_pos (n := 15 - n) (show 0 < 2 by decide))
  omega
theorem Z9 {l : List Int} (h : zW l = 0) {t : List UInt8} {p s n : Nat} (hs : s < l.length) (hl : l[s] = (n : Int)) (hn : 0 < n)
    (hb : ∀ j, j < n → (ZL t (p + j)).toNat = yI l s / 2 ^ (n - 1 - j) % 2) (ht : p + n ≤ 8 * t.length) :
    ∀ (k m : Nat), m < n → n ≤ m + k → QH l t k m (yI l s / 2 ^ (n - m)) (p + m) = .ok (s, p + n) := by
  have hok := xa h
  have hn15 : n ≤ 15 := by have := (hok.2 l[s] (List.getElem_mem hs)).2; omega
  intro k
  induction k with
  | zero => intro m h1 h2; omega
  | succ k ih =>
    intro m h1 h2
    unfold QH
    rw [if_pos (VJ (n := m) h1 (by omega) hs hl), if_pos (by omega)]
    have hv : 2 * (yI l s / 2 ^ (n - m)) + (ZL t (p + m)).toNat = yI l s / 2 ^ (n - (m + 1)) := by
      rw [hb m h1, show n - 1 - m = n - (m + 1) by omega, show n - m = (n - (m + 1)) + 1 by omega, Nat.pow_succ, ← Nat.div_div_eq_div_mul]
      omega
    rw [hv]
    have hc := XY hs hl hn
    by_cases he : m + 1 = n
    · subst he
      rw [Nat.sub_self, Nat.pow_zero, Nat.div_one, if_pos hc.1]
      obtain ⟨i, hi, hil, hin, hic⟩ := VG (l := l) (n := m + 1) (r := yI l s - vd l (m + 1)) (by omega) (by omega) (by omega)
      have := Vh hil hs hin hl hn (by omega)
      subst this
      rw [show (xX l (m + 1)).length + yI l i - vd l (m + 1) = (xX l (m + 1)).length + (yI l i - vd l (m + 1)) by omega, List.getD_eq_getElem?_getD, hi]
      simp [Nat.add_assoc]
    · have hge : vd l (m + 1) + c0 l (m + 1) ≤ yI l s / 2 ^ (n - (m + 1)) := by
        have := Ug l (m + 1) (n - (m + 1) - 1)
        rw [show m + 1 + (n - (m + 1) - 1) + 1 = n by omega, show n - (m + 1) - 1 + 1 = n - (m + 1) by omega] at this
        exact (Nat.le_div_iff_mul_le (Nat.pow_pos (by decide))).2 (by omega)
      rw [if_neg (by omega)]
      exact ih (m + 1) (by omega) (by omega)
theorem X3 {l : List Int} (h : zW l = 0) {t : List UInt8} {p s n : Nat} (hs : s < l.length) (hl : l[s] = (n : Int)) (hn : 0 < n)
    (hb : ∀ j, j < n → (ZL t (p + j)).toNat = yI l s / 2 ^ (n - 1 - j) % 2) (ht : p + n ≤ 8 * t.length) : Zd l t p = .ok (s, p + n) := by
  have hn15 : n ≤ 15 := by have := ((xa h).2 l[s] (List.getElem_mem hs)).2; omega
  have := Z9 h hs hl hn hb ht 16 0 hn (by omega)
  rw [Nat.sub_zero, Nat.div_eq_of_lt (Yj h hs hl hn)] at this
  exact this
theorem J1 : ∀ (n c j : Nat), j < n → (cb n c).getD j 0 = ((c / 2 ^ (n - 1 - j) % 2 : Nat) : Int)
  | 0, _, _, h => by omega
  | n + 1, c, 0, _ => by rw [cb]; simp
  | n + 1, c, j + 1, h => by
    rw [cb, List.getD_cons_succ, J1 n c j (by omega), show n + 1 - 1 - (j + 1) = n - 1 - j by omega]
def sb (l : List Int) (s : Nat) : List Int := cb (l.getD s 0).toNat (yI l s)
theorem XZ {l : List Int} (h : zW l = 0) {A C : List Int} {s n : Nat} (hA : xe A) (hC : xe C) (hs : s < l.length) (hl : l[s] = (n : Int)) (hn : 0 < n) :
    Zd l (xW (A ++ sb l s ++ C)) A.length = .ok (s, A.length + n) := by
  have hsb : sb l s = cb n (yI l s) := by unfold sb; rw [xu hs, hl, Int.toNat_natCast]
  rw [hsb]
  have h01 : xe (A ++ cb n (yI l s) ++ C) := zB (zB hA (Jf _ _)) hC
  refine X3 h hs hl hn (fun j hj => ?_) ?_
  · rw [Q3 h01 (by simp only [List.length_append, ui]; omega)]
    have e : (A ++ cb n (yI l s) ++ C).getD (A.length + j) 0 = ((yI l s / 2 ^ (n - 1 - j) % 2 : Nat) : Int) := by
      rw [← J1 n _ j hj, List.append_assoc, List.getD_eq_getElem?_getD, List.getElem?_append_right (by omega), Nat.add_sub_cancel_left, List.getElem?_append_left (by rw [ui]; exact hj), List.getD_eq_getElem?_getD]
    rw [e]
    have : yI l s / 2 ^ (n - 1 - j) % 2 < 2 := Nat.mod_lt _ (by decide)
    generalize yI l s / 2 ^ (n - 1 - j) % 2 = x at this ⊢
    rcases (show x = 0 ∨ x = 1 by omega) with rfl | rfl <;> rfl
  · rw [uu]
    simp only [List.length_append, ui]; omega
end Go.Pu

namespace Go.Pu
open Go Go.Sl Go.Mo
theorem Qo {lo hi : Int} {n : Nat} (h0 : 0 ≤ lo) (h1 : lo ≤ hi) (h2 : hi ≤ (n : Int)) : subok lo hi n = true := jI.2 ⟨h0, h1, h2⟩
theorem xF {n k : Nat} (h : n * k ≤ 140737488355328) : room n k = true := decide_eq_true h
theorem ju {x : Int} (h : 0 ≤ x) : decide (0 ≤ x) = true := decide_eq_true h
section
variable {α : Type}
theorem qE {p : Prop} [Decidable p] (a b : α) : cond (decide p) a b = if p then a else b := by
  by_cases h : p <;> simp [h]
theorem xz {x y : Int} (a b : α) : cond (x == y) a b = if x = y then a else b := by
  by_cases h : x = y
  · rw [if_pos h, beq_iff_eq.2 h]; rfl
  · rw [if_neg h, beq_eq_false_iff_ne.2 h]; rfl
theorem JY {x y : Int} (a b : α) : cond (x != y) a b = if x = y then b else a := by
  by_cases h : x = y
  · rw [if_pos h, bne_eq_false_iff_eq.2 h]; rfl
  · rw [if_neg h, bne_iff_ne.2 h]; rfl
theorem Xq (x : Bool) (a b : α) : cond (!x) a b = cond x b a := by cases x <;> rfl
theorem vW (x y : Bool) (a b : α) : cond (x && y) a b = cond x (cond y a b) b := by cases x <;> rfl
theorem VI (x y : Bool) (a b : α) : cond (x || y) a b = cond x a (cond y a b) := by cases x <;> rfl
end
end Go.Pu

namespace Go.Pu
open Go Go.Sl Go.Mo
theorem XC (l : List UInt8) : (l.map vA).map ZX = l := by
  rw [List.map_map]
  have : (ZX ∘ vA) = id := by funext x; simp [ZX, vA]
  rw [this, List.map_id]
theorem jB {n : Nat} (h : n < 256) : vA (UInt8.ofNat n) = (n : Int) := by
  unfold vA
  have : (UInt8.ofNat n).toNat = n % 256 := by simp
  rw [this, Nat.mod_eq_of_lt h]
theorem Xu {α : Type} (s : List α) (n : Nat) : sub s 0 (n : Int) = s.take n := by simp [sub]
theorem J9 {α : Type} (s : List α) (n : Nat) : sub s (n : Int) (s.length : Int) = s.drop n := by
  simp only [sub, Int.toNat_natCast]
  exact List.take_of_length_le (by simp)
end Go.Pu

set_option maxRecDepth 100000
namespace Go.Pu
open Go Go.Sl Go.Mo
theorem Xy (B : List Int) (p a : Nat) : ∀ b, nB B p (a + b) = nB B p a + 2 ^ a * nB B (p + a) b
  | 0 => by simp [nB]
  | b + 1 => by
    rw [← Nat.add_assoc, nB, Xy B p a b, nB, Nat.mul_add, Nat.pow_add, Nat.add_assoc p a b]
    have : 2 ^ a * ((B.getD (p + (a + b)) 0).toNat * 2 ^ b) = (B.getD (p + (a + b)) 0).toNat * (2 ^ a * 2 ^ b) := by
      rw [Nat.mul_left_comm]
    omega
theorem Uc {B : List Int} {n v : Nat} (hr : B.length % 8 + n ≤ 8) (hv : v < 2 ^ n) : nB (B ++ ze n v) (8 * (B.length / 8)) 8 = nB B (8 * (B.length / 8)) 8 + v * 2 ^ (B.length % 8) := by
  have e0 : 8 * (B.length / 8) + B.length % 8 = B.length := by omega
  have h1 := Xy (B ++ ze n v) (8 * (B.length / 8)) (B.length % 8) (8 - B.length % 8)
  have h0 := Zo B (ze n v) (8 * (B.length / 8)) (B.length % 8) (by omega)
  rw [show B.length % 8 + (8 - B.length % 8) = 8 from by omega, h0, e0] at h1
  have h2 := XP B (ze n v) 0 (8 - B.length % 8)
  rw [Nat.add_zero] at h2
  have h3 : nB (ze n v) 0 (8 - B.length % 8) = nB (ze n v) 0 n := v7 0 n _ (by omega) (by rw [zN]; omega)
  have h4 := Q5 [] n v
  rw [List.append_nil, Nat.mod_eq_of_lt hv] at h4
  rw [h1, h2, h3, h4, v7 (8 * (B.length / 8)) (B.length % 8) 8 (by omega) (by omega), Nat.mul_comm v]
theorem Xv {B : List Int} (h : xe B) {n v : Nat} (hr : B.length % 8 + n ≤ 8) (hv : v < 2 ^ n) : nB (B ++ ze n v) (8 * (B.length / 8)) 8 = nB B (8 * (B.length / 8)) 8 ||| v * 2 ^ (B.length % 8) := by
  rw [Uc hr hv, v7 (8 * (B.length / 8)) (B.length % 8) 8 (by omega) (by omega)]
  have hlt := ZY h (8 * (B.length / 8)) (B.length % 8)
  have := Nat.two_pow_add_eq_or_of_lt (i := B.length % 8) (b := nB B (8 * (B.length / 8)) (B.length % 8)) hlt v
  rw [Nat.mul_comm v, Nat.add_comm, this, Nat.or_comm]
theorem YK {B : List Int} (h : xe B) {n v : Nat} (hn : 1 ≤ n) (hr : B.length % 8 + n ≤ 8) (hv : v < 2 ^ n) :
    (if B.length % 8 = 0 then x9 B ++ [0] else x9 B).set (B.length / 8) ((nB B (8 * (B.length / 8)) 8 ||| v * 2 ^ (B.length % 8) : Nat) : Int) = x9 (B ++ ze n v) := by
  have hl : ((B ++ ze n v).length + 7) / 8 = B.length / 8 + 1 := by rw [List.length_append, zN]; omega
  have other : ∀ j, j < B.length / 8 → nB (B ++ ze n v) (8 * j) 8 = nB B (8 * j) 8 := fun j hj => Zo B _ _ _ (by omega)
  unfold x9
  rw [hl]
  split
  · rename_i h0
    rw [show (B.length + 7) / 8 = B.length / 8 by omega, List.range_succ, List.map_append]
    apply List.ext_getElem?
    intro j
    by_cases hj : B.length / 8 = j
    · subst hj
      rw [List.getElem?_set_self (by simp), List.getElem?_append_right (by simp)]
      simp [Xv h hr hv]
    · rw [List.getElem?_set_ne hj]
      by_cases hlt : j < B.length / 8
      · rw [List.getElem?_append_left (by simpa using hlt), List.getElem?_append_left (by simpa using hlt)]
        simp only [List.getElem?_map, List.getElem?_range hlt, Option.map_some, other j hlt]
      · rw [List.getElem?_append_right (by simpa using Nat.le_of_not_lt hlt), List.getElem?_append_right (by simpa using Nat.le_of_not_lt hlt)]
        rw [List.getElem?_eq_none (by simp; omega), List.getElem?_eq_none (by simp; omega)]
  · rename_i h0
    rw [show (B.length + 7) / 8 = B.length / 8 + 1 by omega]
    apply List.ext_getElem?
    intro j
    by_cases hj : B.length / 8 = j
    · subst hj
      rw [List.getElem?_set_self (by simp), List.getElem?_map, List.getElem?_range (by omega), Option.map_some, Xv h hr hv]
    · rw [List.getElem?_set_ne hj]
      by_cases hlt : j < B.length / 8
      · simp only [List.getElem?_map, List.getElem?_range (show j < B.length / 8 + 1 by omega), Option.map_some, other j hlt]
      · rw [List.getElem?_eq_none (by simp; omega), List.getElem?_eq_none (by simp; omega)]
theorem JP {a b : Nat} (ha : a < 4294967296) (hb : b < 4294967296) : xh .u32 (a : Int) (b : Int) = ((a &&& b : Nat) : Int) := by
  show IntKind.u32.wrap ((BitVec.ofInt 32 (a : Int) &&& BitVec.ofInt 32 (b : Int)).toNat : Int) = _
  simp only [ul, BitVec.toNat_and, BitVec.toNat_ofNat]
  rw [Nat.mod_eq_of_lt (by omega), Nat.mod_eq_of_lt (by omega)]
  have : a &&& b ≤ a := Nat.and_le_left
  exact jd (by omega) (by omega)
theorem VA (K : Nat) : ∀ (k n : Nat) (v : Nat) (B : List Int), xe B → n < k → n ≤ 32 → v < 2 ^ n → B.length + n < 1099511627776 →
    qm.l1 K k (B.length : Int) (x9 B) (v : Int) (n : Int) = .ok (0, ((B ++ ze n v).length : Int), x9 (B ++ ze n v)) := by
  intro k
  induction k with
  | zero => intro n v B _ h; omega
  | succ k ih =>
    intro n v B h hk hn hv hl
    rw [qm.l1, qE]
    by_cases hn0 : n = 0
    · subst hn0
      rw [if_neg (by omega)]
      simp [ze]
    rw [if_pos (by omega), UP B.length (by omega)]
    have e8 : jj .i64 (B.length : Int) 8 = ((B.length / 8 : Nat) : Int) := by
      have := J3 (a := B.length) (b := 8) (by omega) (by omega)
      rwa [show ((8 : Nat) : Int) = 8 from rfl] at this
    obtain ⟨m, hm⟩ : ∃ m, min n (8 - B.length % 8) = m := ⟨_, rfl⟩
    have hm1 : 1 ≤ m := by omega
    have hp32 : 2 ^ n ≤ 2 ^ 32 := Nat.pow_le_pow_right (by decide) hn
    have hpm : 2 ^ m ≤ 2 ^ 8 := Nat.pow_le_pow_right (by decide) (by omega)
    have hpm1 : 1 ≤ 2 ^ m := Nat.one_le_two_pow
    have hv32 : v < 4294967296 := by omega
    have step : ∀ W : List Int, W = (if B.length % 8 = 0 then x9 B ++ [0] else x9 B) →
        qm.j2 K (qm.l1 K k) (B.length : Int) (v : Int) (n : Int) W = .ok (0, ((B ++ ze n v).length : Int), x9 (B ++ ze n v)) := by
      intro W hW
      have hWl : W.length = B.length / 8 + 1 := by
        rw [hW]; split
        · rw [List.length_append, jE]; simp; omega
        · rw [jE]; omega
      have hWr : rd W ((B.length / 8 : Nat) : Int) = ((nB B (8 * (B.length / 8)) 8 : Nat) : Int) := by
        rw [hW]; split
        · rename_i h0
          rw [yb (by rw [List.length_append, jE]; simp; omega), List.getElem_append_right (by rw [jE]; omega)]
          rw [v7 _ 0 8 (by omega) (by omega)]
          simp [nB]
        · rename_i h0
          exact VS (by omega)
      unfold qm.j2
      rw [UP B.length (by omega), e8]
      have e1 : qk ((8 : Int) - ((B.length % 8 : Nat) : Int)) = ((8 - B.length % 8 : Nat) : Int) := by rw [qK (by omega) (by omega)]; omega
      have e2 : (if (n : Int) < ((8 - B.length % 8 : Nat) : Int) then (n : Int) else ((8 - B.length % 8 : Nat) : Int)) = (m : Int) := by split <;> omega
      rw [e1, e2, qQ, zG (by rw [hWl]; omega), qv, ju (by omega), qv, ju (by omega), qv, hWr, Int.toNat_natCast, qQ]
      have e3 : zV .u32 1 (m : Int) = ((2 ^ m : Nat) : Int) := by
        have := Jp (a := 1) (n := m) (by omega) (by omega)
        rw [show ((1 : Nat) : Int) = 1 from rfl] at this
        rw [this, Nat.one_mul]
      have e4 : wr .u8 (xh .u32 (v : Int) (wr .u32 (zV .u32 1 (m : Int) - 1))) = ((v % 2 ^ m : Nat) : Int) := by
        rw [e3, show (((2 ^ m : Nat) : Int) - 1) = ((2 ^ m - 1 : Nat) : Int) from by omega, jd (by omega) (by omega), JP hv32 (by omega), Nat.and_two_pow_sub_one_eq_mod]
        have := Nat.mod_lt v (show 2 ^ m > 0 from by omega)
        exact Zp (by omega) (by omega)
      have hvm := Nat.mod_lt v (show 2 ^ m > 0 from by omega)
      have hlt := ZY h (8 * (B.length / 8)) 8
      have hp8 : v % 2 ^ m * 2 ^ (B.length % 8) < 256 := by
        have h1 : v % 2 ^ m * 2 ^ (B.length % 8) < 2 ^ m * 2 ^ (B.length % 8) := Nat.mul_lt_mul_of_pos_right hvm (Nat.two_pow_pos _)
        rw [← Nat.pow_add] at h1
        have h2 : 2 ^ (m + B.length % 8) ≤ 2 ^ 8 := Nat.pow_le_pow_right (by decide) (by omega)
        omega
      have e5 : zR .u32 (v : Int) (m : Int) = ((v / 2 ^ m : Nat) : Int) := yQ (by show m ≤ 32; omega)
      rw [e4, Vt (by omega) hp8, Ux (by omega) hp8, hW, YK h hm1 (by omega) hvm, e5, qQ, qQ]
      have e6 : qk ((n : Int) - (m : Int)) = ((n - m : Nat) : Int) := by rw [qK (by omega) (by omega)]; omega
      have e7 : qk ((B.length : Int) + (m : Int)) = ((B ++ ze m (v % 2 ^ m)).length : Int) := by rw [qK (by omega) (by omega), List.length_append, zN]; omega
      have hdiv : v / 2 ^ m < 2 ^ (n - m) := by
        rw [Nat.div_lt_iff_lt_mul (by omega), ← Nat.pow_add, show n - m + m = n from by omega]; exact hv
      rw [e6, e7, ih (n - m) (v / 2 ^ m) _ (zB h (zY _ _)) (by omega) (by omega) hdiv (by rw [List.length_append, zN]; omega)]
      have hb : ze n v = ze m (v % 2 ^ m) ++ ze (n - m) (v / 2 ^ m) := by
        rw [Qk m v m (Nat.le_refl _), ← vM, show m + (n - m) = n from by omega]
      rw [hb, List.append_assoc]
    by_cases h0 : B.length % 8 = 0
    · rw [h0, show (((0 : Nat) : Int) == 0) = true from rfl, cond_true, xF (by rw [jE]; simp only [List.length_cons, List.length_nil]; omega), qv, qQ]
      exact step _ (by rw [if_pos h0])
    · have : (((B.length % 8 : Nat) : Int) == 0) = false := by rw [beq_eq_false_iff_ne]; omega
      rw [this, cond_false]
      exact step _ (by rw [if_neg h0])
theorem QO (K : Nat) (B : List Int) (h : xe B) (n v : Nat) (hn : n ≤ 32) (hv : v < 2 ^ n) (hl : B.length + n < 1099511627776) (hK : 32 < K) (lc dc : qq) :
    qm.m K ⟨⟨⟨(B.length : Int)⟩, x9 B⟩, lc, dc⟩ (v : Int) (n : Int) = .ok (0, ((B ++ ze n v).length : Int), x9 (B ++ ze n v)) := by
  unfold qm.m
  have hp32 : 2 ^ n ≤ 2 ^ 32 := Nat.pow_le_pow_right (by decide) hn
  have d0 : (decide ((n : Int) < 0) || decide ((n : Int) > 32)) = false := by simp only [Bool.or_eq_false_iff, decide_eq_false_iff_not]; omega
  have d1 : zR .u64 (wr .u64 (v : Int)) (n : Int) = 0 := by
    rw [ZR (by omega) (by omega), yQ (by show n ≤ 64; omega), Nat.div_eq_of_lt hv]; rfl
  rw [d0, d1, show imp false false (decide ((0 : Int) ≤ (n : Int))) = true from by rw [ju (by omega)]; rfl, qv, show (false || decide ((0 : Int) > 0)) = false from rfl, cond_false]
  exact VA K K n v B h (by omega) hn hv hl
end Go.Pu

namespace Go.Pu
open Go Go.Sl Go.Mo
def Kw {α β : Type} (f : β → α) : Except Int β → qW α
  | .ok b => .ok (f b)
  | .error e => if e = -1 then .fail else .pan (.iface jp (.agg ⟨[.int .i64 e]⟩))
def two (x : Nat × Nat) : Int × Int := ((x.1 : Int), (x.2 : Int))
end Go.Pu

namespace Go.Pu
open Go Go.Sl Go.Mo
def uD (s : List UInt8) (i : Nat) : Nat := (s.getD i 0).toNat
def Vu (t : List UInt8) (L p : Nat) (out : List Int) : Except Int (Nat × List Int) :=
  match JC t p 4 with
  | .error e => .error e
  | .ok (h, q) =>
    if uD h 2 + 256 * uD h 3 = 65535 - (uD h 0 + 256 * uD h 1) then
      match JC t q (uD h 0 + 256 * uD h 1) with
      | .error e => .error e
      | .ok (s, q') => if out.length + (uD h 0 + 256 * uD h 1) ≤ L then .ok (q', out ++ s.map vA) else .error 11
    else .error 3
end Go.Pu
namespace Go.Pu
open Go Go.Sl Go.Mo
end Go.Pu

namespace Go.Pu
open Go Go.Sl Go.Mo
def KO (m : qW (Int × Int × List Int)) (s : Except Int (Nat × List Int)) : Prop :=
  match s with
  | .ok (q, out) => m = .ok (0, (q : Int), out)
  | .error e => if e = -1 then m = .fail else ∃ p out, m = .ok (e, p, out) ∧ e ≠ 0
end Go.Pu

namespace Go.Pu
open Go Go.Sl Go.Mo
def lenT : List (Nat × Nat) := tab_inflate_lengths.map fun r => (r.from_.toNat, r.bits_.toNat)
def dstT : List (Nat × Nat) := tab_inflate_distances.map fun r => (r.from_.toNat, r.bits_.toNat)
def lenOf (x : Nat) : Nat × Nat := lenT.getD (x - 257) (0, 0)
def yo (x : Nat) : Nat × Nat := dstT.getD x (0, 0)
def Xc : Nat → Nat → List Int → List Int
  | 0, _, out => out
  | n + 1, b, out => Xc n b (out ++ [out.getD (out.length - b) 0])
def Uv (t : List UInt8) (L : Nat) (dl : List Int) (x p : Nat) (out : List Int) : Except Int (Nat × List Int) :=
  if x ≤ 285 then
    match jG t p (lenOf x).2 with
    | .error e => .error e
    | .ok (v, p1) =>
      match Zd dl t p1 with
      | .error e => .error e
      | .ok (d, p2) =>
        if d ≤ 29 then
          match jG t p2 (yo d).2 with
          | .error e => .error e
          | .ok (u, p3) =>
            if (yo d).1 + u ≤ out.length then
              if out.length + ((lenOf x).1 + v) ≤ L then .ok (p3, Xc ((lenOf x).1 + v) ((yo d).1 + u) out) else .error 11
            else .error 3
        else .error 3
  else .error 3
def Yv (t : List UInt8) (L : Nat) (ll dl : List Int) : Nat → Nat → List Int → Except Int (Nat × List Int)
  | 0, _, _ => .error (-1)
  | k + 1, p, out =>
    match Zd ll t p with
    | .error e => .error e
    | .ok (x, q) =>
      if x = 256 then .ok (q, out)
      else if x < 256 then (if out.length < L then Yv t L ll dl k q (out ++ [(x : Int)]) else .error 11)
      else match Uv t L dl x q out with
        | .error e => .error e
        | .ok (q', out') => Yv t L ll dl k q' out'
theorem jX {l : List Int} {i : Nat} : rd l (i : Int) = l.getD i 0 := by
  simp only [rd, Int.toNat_natCast]; rfl
end Go.Pu

namespace Go.Pu
open Go Go.Sl Go.Mo
def Bl {α : Type} (e : Int) : qW α := .pan (.iface jp (.agg ⟨[.int .i64 e]⟩))
def KB (x : Nat × List Int) : Int × List Int := ((x.1 : Int), x.2)
end Go.Pu

namespace Go.Pu
open Go Go.Sl Go.Mo
def Bh (r : qW (Int × Int)) (a b : Nat) : Bool := match r with
  | .ok (x, y) => x == (a : Int) && y == (b : Int)
  | _ => false
end Go.Pu

set_option maxRecDepth 100000
namespace Go.Pu
open Go Go.Sl Go.Mo
abbrev jl := qp
def jx (t : jl) : Bool := if t.Dist_ = 0 then decide (t.Len_ = 0) else decide (1 ≤ t.Dist_ ∧ t.Dist_ ≤ 32768 ∧ 3 ≤ t.Len_ ∧ t.Len_ ≤ 258 ∧ t.Lit_ = 0)
theorem VX (K : Nat) (t : jl) : y7.m K t = .ok (jx t) := by
  unfold y7.m jx
  rw [xz]
  by_cases h : t.Dist_ = 0
  · rw [if_pos h, if_pos h, qQ]; rfl
  · rw [if_neg h, if_neg h, qQ]
    congr 1
    rw [Bool.eq_iff_iff]
    simp only [Bool.and_eq_true, decide_eq_true_eq, beq_iff_eq]
    omega
def um (n : Nat) : Nat := if n = 258 then 285 else (List.range 28).foldl (fun out k => if (lenOf (257 + k)).1 ≤ n then 257 + k else out) 257
def uc (n : Nat) : Nat := (List.range 30).foldl (fun out k => if (yo k).1 ≤ n then k else out) 0
theorem JZ {f : Nat → Nat} {p : Nat → Prop} [DecidablePred p] (s0 d : Nat) : ∀ m, (∀ k, k < m → (p k ↔ k ≤ s0)) → (List.range m).foldl (fun out k => if p k then f k else out) d = if m = 0 then d else f (min s0 (m - 1))
  | 0, _ => rfl
  | m + 1, h => by
    rw [List.range_succ, List.foldl_append, JZ s0 d m (fun k hk => h k (by omega))]
    simp only [List.foldl_cons, List.foldl_nil]
    have := h m (by omega)
    rw [if_neg (by omega : ¬ m + 1 = 0)]
    by_cases hm : m ≤ s0
    · rw [if_pos (this.2 hm)]; congr 1; omega
    · rw [if_neg (fun hp => hm (this.1 hp))]
      by_cases h0 : m = 0
      · omega
      · rw [if_neg h0]; congr 1; omega
theorem XQ (K : Nat) (n told : Nat) (hn : n < 1048576) (ht : told ≤ 2) : ∀ (j k top : Nat), top < j → k + top < 1048576 → k ≤ 20 → top * 2 ^ k ≤ n → n < (top + 1) * 2 ^ k → (k = 0 ∨ 2 ^ told ≤ top) →
    ∃ k' top', k' ≤ 20 ∧ top' * 2 ^ k' ≤ n ∧ n < (top' + 1) * 2 ^ k' ∧ (k' = 0 ∨ 2 ^ told ≤ top') ∧ top' < 2 ^ (told + 1) ∧
      zy.l1 K (n : Int) (told : Int) j (k : Int) (top : Int) = .ok (((k' * 2 ^ told + top' : Nat) : Int), (k' : Int), ((n - top' * 2 ^ k' : Nat) : Int)) := by
  intro j
  induction j with
  | zero => intro k top h; omega
  | succ j ih =>
    intro k top h1 h2 h20 h3 h4 h5
    have hpt : 2 ^ told ≤ 2 ^ 2 := Nat.pow_le_pow_right (by decide) ht
    have hpt1 : 1 ≤ 2 ^ told := Nat.one_le_two_pow
    have e2 : zV .i64 2 (told : Int) = ((2 ^ (told + 1) : Nat) : Int) := by
      have := jA (a := 2) (n := told) (by omega) (by omega)
      rw [show ((2 : Nat) : Int) = 2 from rfl] at this
      rw [this, Nat.pow_succ, Nat.mul_comm]
    rw [zy.l1, ju (by omega), qv, e2, qE]
    have hps : 2 ^ (told + 1) = 2 * 2 ^ told := by rw [Nat.pow_succ, Nat.mul_comm]
    by_cases hc : 2 ^ (told + 1) ≤ top
    · have hk20 : k < 20 := by
        refine Nat.lt_of_not_le fun hge => ?_
        have h6 : 2 ^ 20 ≤ 2 ^ k := Nat.pow_le_pow_right (by decide) hge
        have h7 : 1 * 2 ^ 20 ≤ top * 2 ^ k := Nat.mul_le_mul (by omega) h6
        omega
      have e3 : zR .i64 (top : Int) 1 = ((top / 2 : Nat) : Int) := by
        have := yQ (k := .i64) (a := top) (n := 1) (by decide)
        rw [show ((1 : Nat) : Int) = 1 from rfl] at this
        rw [this]
      rw [if_pos (by omega), e3, qQ, qQ, show qk ((k : Int) + 1) = ((k + 1 : Nat) : Int) from by rw [qK (by omega) (by omega)]; rfl]
      refine ih (k + 1) (top / 2) (by omega) (by omega) (by omega) ?_ ?_ (by omega)
      · rw [Nat.pow_succ]
        have : top / 2 * (2 ^ k * 2) ≤ top * 2 ^ k := by rw [Nat.mul_comm (2 ^ k) 2, ← Nat.mul_assoc]; exact Nat.mul_le_mul_right _ (by omega)
        omega
      · rw [Nat.pow_succ]
        have : (top + 1) * 2 ^ k ≤ (top / 2 + 1) * (2 ^ k * 2) := by rw [Nat.mul_comm (2 ^ k) 2, ← Nat.mul_assoc]; exact Nat.mul_le_mul_right _ (by omega)
        omega
    · rw [if_neg (by omega)]
      refine ⟨k, top, h20, h3, h4, h5, by omega, ?_⟩
      unfold zy.j2
      have hk : k * 2 ^ told ≤ 20 * 4 := Nat.mul_le_mul h20 (by omega)
      rw [ju (by omega), qv, ju (by omega), qv, jA (by omega) (by omega), jA (by omega) (by omega), qK (by omega) (by omega), qK (x := (n : Int) - _) (by omega) (by omega), jd (by omega) (by omega)]
      congr 2
      congr 1
      omega
theorem Qw (K : Nat) (n told : Nat) (hn : n < 1048576) (ht : told ≤ 2) (hK : n < K) : ∃ k top, k ≤ 20 ∧ top * 2 ^ k ≤ n ∧ n < (top + 1) * 2 ^ k ∧ (k = 0 ∨ 2 ^ told ≤ top) ∧ top < 2 ^ (told + 1) ∧
    zy.m K (n : Int) (told : Int) = .ok (((k * 2 ^ told + top : Nat) : Int), (k : Int), ((n - top * 2 ^ k : Nat) : Int)) := by
  unfold zy.m
  exact XQ K n told hn ht K 0 n hK (by omega) (by omega) (by simp) (by simp) (.inl rfl)
theorem Zk : ∀ k, k < 6 → ∀ top, top < 8 → (k = 0 ∨ 4 ≤ top) → lenOf (257 + (k * 4 + top)) = (3 + top * 2 ^ k, k) := by decide
theorem ZH : ∀ k, k < 14 → ∀ top, top < 4 → (k = 0 ∨ 2 ≤ top) → yo (k * 2 + top) = (1 + top * 2 ^ k, k) := by decide
theorem Xd : ∀ j, j < 28 → ∀ i, i < j → (lenOf (257 + i)).1 < (lenOf (257 + j)).1 := by decide
theorem Z0 : ∀ j, j < 30 → ∀ i, i < j → (yo i).1 < (yo j).1 := by decide
theorem VT {n s : Nat} (hs : s < 28) (hn : n ≠ 258) (h1 : (lenOf (257 + s)).1 ≤ n) (h2 : s = 27 ∨ n < (lenOf (257 + (s + 1))).1) : um n = 257 + s := by
  unfold um
  rw [if_neg hn, JZ (f := fun k => 257 + k) (p := fun k => (lenOf (257 + k)).1 ≤ n) s 257 28 (fun k hk => ?_)]
  · simp only [if_neg (by decide : ¬ 28 = 0)]; omega
  · constructor
    · intro hle
      refine Nat.le_of_not_lt fun hlt => ?_
      rcases h2 with h2 | h2
      · omega
      · by_cases he : k = s + 1
        · subst he; omega
        · have := Xd k hk (s + 1) (by omega); omega
    · intro hle
      by_cases he : k = s
      · subst he; exact h1
      · have := Xd s hs k (by omega); omega
theorem VN {n s : Nat} (hs : s < 30) (h1 : (yo s).1 ≤ n) (h2 : s = 29 ∨ n < (yo (s + 1)).1) : uc n = s := by
  unfold uc
  rw [JZ (f := fun k => k) (p := fun k => (yo k).1 ≤ n) s 0 30 (fun k hk => ?_)]
  · simp only [if_neg (by decide : ¬ 30 = 0)]; omega
  · constructor
    · intro hle
      refine Nat.le_of_not_lt fun hlt => ?_
      rcases h2 with h2 | h2
      · omega
      · by_cases he : k = s + 1
        · subst he; omega
        · have := Z0 k hk (s + 1) (by omega); omega
    · intro hle
      by_cases he : k = s
      · subst he; exact h1
      · have := Z0 s hs k (by omega); omega
structure UO (n s e : Nat) : Prop where
  eq : um n = s
  lo : 257 ≤ s
  hi : s ≤ 285
  sum : (lenOf s).1 + e = n
  bits : e < 2 ^ (lenOf s).2
  small : (lenOf s).2 ≤ 5
structure UI (n s e : Nat) : Prop where
  eq : uc n = s
  hi : s ≤ 29
  sum : (yo s).1 + e = n
  bits : e < 2 ^ (yo s).2
  small : (yo s).2 ≤ 13
theorem vK (K : Nat) (n : Nat) (h3 : 3 ≤ n) (h258 : n ≤ 258) (hK : 300 < K) : ∃ s e, UO n s e ∧ xP.m K (n : Int) = .ok ((s : Int), ((lenOf s).2 : Int), (e : Int)) := by
  unfold xP.m
  rw [xz]
  by_cases h : n = 258
  · subst h
    rw [if_pos (show ((258 : Nat) : Int) = 258 from rfl)]
    exact ⟨285, 0, ⟨rfl, by decide, by decide, by decide, by decide, by decide⟩, by rfl⟩
  · rw [if_neg (by omega), show qk ((n : Int) - 3) = ((n - 3 : Nat) : Int) from by rw [qK (by omega) (by omega)]; omega]
    obtain ⟨k, top, q1, q2, q3, q4, q5, q6⟩ := Qw K (n - 3) 2 (by omega) (by omega) (by omega)
    rw [show ((2 : Nat) : Int) = 2 from rfl] at q6
    have hk : k < 6 := by
      refine Nat.lt_of_not_le fun hge => ?_
      have h6 : 2 ^ 6 ≤ 2 ^ k := Nat.pow_le_pow_right (by decide) hge
      have h7 : 4 * 2 ^ 6 ≤ top * 2 ^ k := Nat.mul_le_mul (by omega) h6
      omega
    have ht := Zk k hk top (by omega) (by omega)
    have hlt28 : k * 4 + top < 28 := by
      refine Nat.lt_of_not_le fun hge => ?_
      omega
    have hnext : k * 4 + top = 27 ∨ n < (lenOf (257 + (k * 4 + top + 1))).1 := by
      by_cases h27 : k * 4 + top = 27
      · exact .inl h27
      · right
        by_cases h7 : top = 7
        · have := Zk (k + 1) (by omega) 4 (by decide) (.inr (by decide))
          rw [show (k + 1) * 4 + 4 = k * 4 + top + 1 from by omega] at this
          rw [this, Nat.pow_succ]
          simp only
          subst h7; omega
        · have := Zk k hk (top + 1) (by omega) (by omega)
          rw [show k * 4 + (top + 1) = k * 4 + top + 1 from by omega] at this
          rw [this]
          simp only
          omega
    refine ⟨257 + (k * 4 + top), n - 3 - top * 2 ^ k, ⟨VT hlt28 h (by rw [ht]; simp only; omega) hnext, by omega, by omega, by rw [ht]; simp only; omega, ?_, by rw [ht]; simp only; omega⟩, ?_⟩
    · rw [ht]; simp only; rw [Nat.add_mul, Nat.one_mul] at q3; omega
    · rw [q6, qW.bind_ok]
      dsimp only
      rw [ht, qK (by omega) (by omega)]
      congr 2
      omega
theorem jR (K : Nat) (n : Nat) (h1 : 1 ≤ n) (h2 : n ≤ 32768) (hK : 32768 < K) : ∃ s e, UI n s e ∧ xy.m K (n : Int) = .ok ((s : Int), ((yo s).2 : Int), (e : Int)) := by
  unfold xy.m
  rw [show qk ((n : Int) - 1) = ((n - 1 : Nat) : Int) from by rw [qK (by omega) (by omega)]; omega]
  obtain ⟨k, top, q1, q2, q3, q4, q5, q6⟩ := Qw K (n - 1) 1 (by omega) (by omega) (by omega)
  rw [show ((1 : Nat) : Int) = 1 from rfl] at q6
  have hk : k < 14 := by
    refine Nat.lt_of_not_le fun hge => ?_
    have h6 : 2 ^ 14 ≤ 2 ^ k := Nat.pow_le_pow_right (by decide) hge
    have h7 : 2 * 2 ^ 14 ≤ top * 2 ^ k := Nat.mul_le_mul (by omega) h6
    omega
  have ht := ZH k hk top (by omega) (by omega)
  have hnext : k * 2 + top = 29 ∨ n < (yo (k * 2 + top + 1)).1 := by
    by_cases h27 : k * 2 + top = 29
    · exact .inl h27
    · right
      by_cases h7 : top = 3
      · have := ZH (k + 1) (by omega) 2 (by decide) (.inr (by decide))
        rw [show (k + 1) * 2 + 2 = k * 2 + top + 1 from by omega] at this
        rw [this, Nat.pow_succ]
        simp only
        subst h7; omega
      · have := ZH k hk (top + 1) (by omega) (by omega)
        rw [show k * 2 + (top + 1) = k * 2 + top + 1 from by omega] at this
        rw [this]
        simp only
        omega
  refine ⟨k * 2 + top, n - 1 - top * 2 ^ k, ⟨VN (by omega) (by rw [ht]; simp only; omega) hnext, by omega, by rw [ht]; simp only; omega, ?_, by rw [ht]; simp only; omega⟩, ?_⟩
  · rw [ht]; simp only; rw [Nat.add_mul, Nat.one_mul] at q3; omega
  · rw [q6, qW.bind_ok]
    dsimp only
    rw [ht]
end Go.Pu

set_option maxRecDepth 100000
namespace Go.Pu
open Go Go.Sl Go.Mo
abbrev PK := qb
theorem x8 {α : Type} [Inhabited α] (A : List α) (x : α) (B : List α) {i : Int} (h : i = (A.length : Int)) : rd (A ++ x :: B) i = x := by
  subst h; simp [rd, List.getD]
theorem jS {α : Type} (A : List α) (x y : α) (B : List α) {i : Int} (h : i = (A.length : Int)) : (A ++ x :: B).set (Int.toNat i) y = A ++ y :: B := by
  subst h; simp
theorem yd {α : Type} (A : List α) (x : α) (B : List α) {i : Int} (h : i = (A.length : Int)) : inb i (A ++ x :: B).length = true := by
  subst h; simp [inb]; omega
theorem ym (x : PK) : qb.mk x.often_ x.symbols_ = x := rfl
theorem Bc (K : Nat) : ∀ (k : Nat) (P Y1 X2 M X1 Y2 Q : List PK), Y1.length = X1.length → X2.length = Y2.length → X2.length < k → (P ++ Y1 ++ X2 ++ M ++ X1 ++ Y2 ++ Q).length < 1099511627776 →
    qw.l1 K (P.length : Int) ((P.length + (Y1.length + X2.length) + M.length : Nat) : Int) ((Y1.length + X2.length : Nat) : Int) k (P ++ Y1 ++ X2 ++ M ++ X1 ++ Y2 ++ Q) (Y1.length : Int) =
      .ok (P ++ Y1 ++ Y2 ++ M ++ X1 ++ X2 ++ Q) := by
  intro k
  induction k with
  | zero => intro P Y1 X2 M X1 Y2 Q _ _ h; omega
  | succ k ih =>
    intro P Y1 X2 M X1 Y2 Q h1 h2 h3 h4
    rw [qw.l1]
    cases X2 with
    | nil =>
      have : Y2 = [] := List.length_eq_zero_iff.1 h2.symm
      subst this
      rw [qE, if_neg (by simp)]
    | cons x X2 =>
      cases Y2 with
      | nil => simp at h2
      | cons y Y2 =>
        simp only [List.length_cons, List.length_append] at h2 h3 h4
        have e1 : P ++ Y1 ++ (x :: X2) ++ M ++ X1 ++ (y :: Y2) ++ Q = (P ++ Y1) ++ x :: (X2 ++ M ++ X1 ++ (y :: (Y2 ++ Q))) := by simp
        have e2 : P ++ Y1 ++ (x :: X2) ++ M ++ X1 ++ (y :: Y2) ++ Q = (P ++ Y1 ++ (x :: X2) ++ M ++ X1) ++ y :: (Y2 ++ Q) := by simp
        have ha : qk ((P.length : Int) + (Y1.length : Int)) = ((P ++ Y1).length : Int) := by rw [qK (by omega) (by omega), List.length_append]; omega
        have hb : qk (((P.length + (Y1.length + (x :: X2).length) + M.length : Nat) : Int) + (Y1.length : Int)) = ((P ++ Y1 ++ (x :: X2) ++ M ++ X1).length : Int) := by
          simp only [List.length_cons, List.length_append]; rw [qK (by omega) (by omega)]; omega
        rw [qE, if_pos (by simp only [List.length_cons]; omega), ha, hb]
        rw [show inb ((P ++ Y1 ++ (x :: X2) ++ M ++ X1).length : Int) (P ++ Y1 ++ (x :: X2) ++ M ++ X1 ++ (y :: Y2) ++ Q).length = true from by rw [e2]; exact yd _ _ _ rfl, qv]
        rw [show inb ((P ++ Y1).length : Int) (P ++ Y1 ++ (x :: X2) ++ M ++ X1 ++ (y :: Y2) ++ Q).length = true from by rw [e1]; exact yd _ _ _ rfl, qv]
        rw [show rd (P ++ Y1 ++ (x :: X2) ++ M ++ X1 ++ (y :: Y2) ++ Q) ((P ++ Y1 ++ (x :: X2) ++ M ++ X1).length : Int) = y from by rw [e2]; exact x8 _ _ _ rfl]
        rw [show rd (P ++ Y1 ++ (x :: X2) ++ M ++ X1 ++ (y :: Y2) ++ Q) ((P ++ Y1).length : Int) = x from by rw [e1]; exact x8 _ _ _ rfl]
        rw [ym, ym, qQ, e1, jS _ _ _ _ rfl]
        have e3 : (P ++ Y1) ++ y :: (X2 ++ M ++ X1 ++ (y :: (Y2 ++ Q))) = (P ++ Y1 ++ (y :: X2) ++ M ++ X1) ++ y :: (Y2 ++ Q) := by simp
        have e4 : ((P ++ Y1 ++ (x :: X2) ++ M ++ X1).length : Int) = ((P ++ Y1 ++ (y :: X2) ++ M ++ X1).length : Int) := by simp
        rw [e3, e4, yd _ _ _ rfl, qv, jS _ _ _ _ rfl, qQ, qQ]
        have hw : qk ((Y1.length : Int) + 1) = ((Y1 ++ [y]).length : Int) := by rw [qK (by omega) (by omega), List.length_append]; rfl
        rw [hw]
        have := ih P (Y1 ++ [y]) X2 M (X1 ++ [x]) Y2 Q (by simp [h1]) (by omega) (by omega) (by simp only [List.length_append, List.length_cons, List.length_nil]; omega)
        simp only [List.length_append, List.length_cons, List.length_nil, List.append_assoc, List.cons_append, List.nil_append, Nat.zero_add] at this ⊢
        rw [show Y1.length + (X2.length + 1) = Y1.length + (1 + X2.length) from by omega]
        simp only [← Nat.add_assoc] at this ⊢
        exact this
theorem JB (K : Nat) (P X M Y Q : List PK) (h : X.length = Y.length) (hK : X.length < K) (hl : (P ++ X ++ M ++ Y ++ Q).length < 1099511627776) {a b n : Int} (ha : a = (P.length : Int)) (hb : b = ((P.length + X.length + M.length : Nat) : Int)) (hn : n = (X.length : Int)) :
    qw.m K (P ++ X ++ M ++ Y ++ Q) a b n = .ok (P ++ Y ++ M ++ X ++ Q) := by
  subst ha; subst hb; subst hn
  have := Bc K K P [] X M [] Y Q rfl h hK (by simpa using hl)
  simpa [qw.m] using this
theorem Ki (K : Nat) (hKl : 0 < K) : ∀ (k : Nat) (P X Y Q : List PK), 0 < X.length → 0 < Y.length → X.length + Y.length < k → (P ++ X ++ Y ++ Q).length < 1099511627776 → (P ++ X ++ Y ++ Q).length < K →
    qr.l1 K ((P.length + X.length : Nat) : Int) k (P ++ X ++ Y ++ Q) (X.length : Int) (Y.length : Int) = .ok (P ++ Y ++ X ++ Q) := by
  intro k
  induction k with
  | zero => intro P X Y Q _ _ h; omega
  | succ k ih =>
    intro P X Y Q hx hy h3 h4 h5
    simp only [List.length_append] at h4 h5
    rw [qr.l1, JY]
    by_cases he : (X.length : Int) = (Y.length : Int)
    · rw [if_pos he]
      unfold qr.j2
      have := JB K P X [] Y Q (by omega) (by omega) (by simp only [List.length_append, List.length_nil]; omega) (a := qk (((P.length + X.length : Nat) : Int) - (X.length : Int))) (b := ((P.length + X.length : Nat) : Int)) (n := (X.length : Int))
        (by rw [qK (by omega) (by omega)]; omega) (by simp) rfl
      simp only [List.append_nil] at this
      rw [this]; rfl
    · rw [if_neg he, qE]
      by_cases hg : (X.length : Int) > (Y.length : Int)
      · rw [if_pos hg]
        obtain ⟨X1, X2, rfl, hX1⟩ : ∃ X1 X2, X = X1 ++ X2 ∧ X1.length = Y.length := ⟨X.take Y.length, X.drop Y.length, by simp, by rw [List.length_take]; omega⟩
        simp only [List.length_append] at h3 h4 h5 hx hg he
        have := JB K P X1 X2 Y Q (by omega) (by omega) (by simp only [List.length_append]; omega) (a := qk (((P.length + (X1 ++ X2).length : Nat) : Int) - ((X1 ++ X2).length : Int))) (b := ((P.length + (X1 ++ X2).length : Nat) : Int)) (n := (Y.length : Int))
          (by simp only [List.length_append]; rw [qK (by omega) (by omega)]; omega) (by simp only [List.length_append]; omega) (by omega)
        rw [show P ++ (X1 ++ X2) ++ Y ++ Q = P ++ X1 ++ X2 ++ Y ++ Q from by simp, this, qW.bind_ok, qQ]
        have hw : qk (((X1 ++ X2).length : Int) - (Y.length : Int)) = (X2.length : Int) := by simp only [List.length_append]; rw [qK (by omega) (by omega)]; omega
        rw [hw]
        have := ih (P ++ Y) X2 X1 Q (by omega) (by omega) (by omega) (by simp only [List.length_append]; omega) (by simp only [List.length_append]; omega)
        rw [hX1] at this
        rw [show ((P.length + (X1 ++ X2).length : Nat) : Int) = (((P ++ Y).length + X2.length : Nat) : Int) from by simp only [List.length_append]; omega, this]
        simp
      · rw [if_neg hg]
        obtain ⟨Y1, Y2, rfl, hY2⟩ : ∃ Y1 Y2, Y = Y1 ++ Y2 ∧ Y2.length = X.length := ⟨Y.take (Y.length - X.length), Y.drop (Y.length - X.length), by simp, by rw [List.length_drop]; omega⟩
        simp only [List.length_append] at h3 h4 h5 hy hg he
        have := JB K P X Y1 Y2 Q (by omega) (by omega) (by simp only [List.length_append]; omega) (a := qk (((P.length + X.length : Nat) : Int) - (X.length : Int))) (b := qk (qk (((P.length + X.length : Nat) : Int) + ((Y1 ++ Y2).length : Int)) - (X.length : Int))) (n := (X.length : Int))
          (by rw [qK (by omega) (by omega)]; omega) (by simp only [List.length_append]; rw [qK (x := ((P.length + X.length : Nat) : Int) + _) (by omega) (by omega), qK (by omega) (by omega)]; omega) rfl
        rw [show P ++ X ++ (Y1 ++ Y2) ++ Q = P ++ X ++ Y1 ++ Y2 ++ Q from by simp, this, qW.bind_ok, qQ]
        have hw : qk (((Y1 ++ Y2).length : Int) - (X.length : Int)) = (Y1.length : Int) := by simp only [List.length_append]; rw [qK (by omega) (by omega)]; omega
        rw [hw]
        have := ih P Y2 Y1 (X ++ Q) (by omega) (by omega) (by omega) (by simp only [List.length_append]; omega) (by simp only [List.length_append]; omega)
        rw [hY2] at this
        rw [show P ++ Y2 ++ Y1 ++ X ++ Q = P ++ Y2 ++ Y1 ++ (X ++ Q) from by simp, this]
        simp
theorem Ul (K : Nat) (P X Y Q : List PK) (hx : 0 < X.length) (hy : 0 < Y.length) (h4 : (P ++ X ++ Y ++ Q).length < 1099511627776) (h5 : (P ++ X ++ Y ++ Q).length < K) {a m b : Int} (ha : a = (P.length : Int)) (hm : m = ((P.length + X.length : Nat) : Int))
    (hb : b = ((P.length + X.length + Y.length : Nat) : Int)) : qr.m K (P ++ X ++ Y ++ Q) a m b = .ok (P ++ Y ++ X ++ Q) := by
  subst ha; subst hm; subst hb
  unfold qr.m
  have h4' := h4; have h5' := h5
  simp only [List.length_append] at h4' h5'
  rw [qQ, qQ, show qk (((P.length + X.length : Nat) : Int) - (P.length : Int)) = (X.length : Int) from by rw [qK (by omega) (by omega)]; omega,
    show qk (((P.length + X.length + Y.length : Nat) : Int) - ((P.length + X.length : Nat) : Int)) = (Y.length : Int) from by rw [qK (by omega) (by omega)]; omega]
  exact Ki K (by omega) K P X Y Q hx hy (by omega) h4 h5
def yC (l : List PK) : Prop := l.Pairwise fun x y => x.often_ ≤ y.often_
def SS (l l' : List PK) : Prop := yC l' ∧ l'.Perm l ∧ ∀ k : Int, l'.filter (fun x => x.often_ == k) = l.filter (fun x => x.often_ == k)
theorem yC.append {A B : List PK} (ha : yC A) (hb : yC B) (h : ∀ x ∈ A, ∀ y ∈ B, x.often_ ≤ y.often_) : yC (A ++ B) := List.pairwise_append.2 ⟨ha, hb, h⟩
theorem yC.left {A B : List PK} (h : yC (A ++ B)) : yC A := (List.pairwise_append.1 h).1
theorem yC.right {A B : List PK} (h : yC (A ++ B)) : yC B := (List.pairwise_append.1 h).2.1
theorem yC.cross {A B : List PK} (h : yC (A ++ B)) : ∀ x ∈ A, ∀ y ∈ B, x.often_ ≤ y.often_ := (List.pairwise_append.1 h).2.2
theorem SS.refl {l : List PK} (h : yC l) : SS l l := ⟨h, List.Perm.refl _, fun _ => rfl⟩
theorem vq {X Y : List PK} (h : ∀ x ∈ X, ∀ y ∈ Y, y.often_ < x.often_) (k : Int) : (X ++ Y).filter (fun x => x.often_ == k) = (Y ++ X).filter (fun x => x.often_ == k) := by
  simp only [List.filter_append]
  by_cases hx : X.filter (fun x => x.often_ == k) = []
  · rw [hx]; simp
  · have : Y.filter (fun x => x.often_ == k) = [] := by
      obtain ⟨x, hx⟩ := List.exists_mem_of_ne_nil _ hx
      rw [List.mem_filter] at hx
      rw [List.filter_eq_nil_iff]
      intro y hy
      have := h x hx.1 y hy
      have h2 : x.often_ = k := by simpa using hx.2
      simp only [beq_iff_eq]; omega
    rw [this]; simp
end Go.Pu

set_option maxRecDepth 100000
namespace Go.Pu
open Go Go.Sl Go.Mo
theorem jy {α : Type} (A : List α) : A = [] ∨ ∃ A' z, A = A' ++ [z] := by
  rcases List.eq_nil_or_concat A with h | ⟨A', z, h⟩
  · exact .inl h
  · exact .inr ⟨A', z, by rw [h]; simp⟩
def Ju (x y : Int) : Int := if x < y then -1 else if x > y then 1 else 0
theorem XU (K : Nat) (x y : Int) : xx.m K x y = .ok (Ju x y) := by
  unfold xx.m ya.m Ju
  have h : ∀ z : Int, (z != z) = false := fun z => by simp
  simp only [h, qQ, qW.bind_ok, cond_false, qE]
  split <;> (try rfl)
  split <;> rfl
theorem Vi (K : Nat) (x y : PK) : xq.m K x y = .ok (Ju x.often_ y.often_) := by
  unfold xq.m; rw [XU]; rfl
theorem vY (x y : Int) : decide (Ju x y < (0 : Int)) = decide (x < y) := by
  unfold Ju
  by_cases h : x < y
  · rw [if_pos h]; simp [h]
  · rw [if_neg h]; split <;> simp [h]
theorem yC.last {A : List PK} {x : PK} (h : yC A) (hx : ∀ y, A.getLast? = some y → y.often_ ≤ x.often_) : ∀ y ∈ A, y.often_ ≤ x.often_ := by
  intro y hy
  rcases jy A with rfl | ⟨A', z, rfl⟩
  · cases hy
  · have hz := hx z (by simp)
    rcases List.mem_append.1 hy with h1 | h1
    · have := h.cross y h1 z (by simp); omega
    · simp at h1; subst h1; exact hz
theorem SS.ins {A1 A2 : List PK} {x : PK} (h : yC (A1 ++ A2)) (h1 : ∀ y ∈ A1, y.often_ ≤ x.often_) (h2 : ∀ y ∈ A2, x.often_ < y.often_) : SS (A1 ++ A2 ++ [x]) (A1 ++ x :: A2) := by
  refine ⟨?_, ?_, fun k => ?_⟩
  · refine yC.append h.left ?_ ?_
    · exact List.pairwise_cons.2 ⟨fun y hy => by have := h2 y hy; omega, h.right⟩
    · intro a ha y hy
      rcases List.mem_cons.1 hy with rfl | hy
      · exact h1 a ha
      · exact h.cross a ha y hy
  · rw [List.append_assoc]
    exact List.Perm.append_left _ (List.perm_append_comm (l₁ := [x]) (l₂ := A2))
  · have := vq (X := A2) (Y := [x]) (fun a ha y hy => by simp at hy; subst hy; exact h2 a ha) k
    rw [List.append_assoc, List.filter_append, List.filter_append (l₁ := A1), this]
    rfl
theorem VL (K : Nat) (g : List PK → Int → qW (List PK)) (i : Nat) (P Q : List PK) (x : PK) (hi : i < 1099511627776) : ∀ (k : Nat) (A B : List PK), A.length < k → (P ++ A ++ x :: (B ++ Q)).length < 1099511627776 →
    ∃ A1 A2, A = A1 ++ A2 ∧ (∀ y ∈ A2, x.often_ < y.often_) ∧ (∀ y, A1.getLast? = some y → y.often_ ≤ x.often_) ∧
      qd.l2 K g (P.length : Int) (i : Int) k (P ++ A ++ x :: (B ++ Q)) ((P.length + A.length : Nat) : Int) = g (P ++ A1 ++ x :: (A2 ++ B ++ Q)) ((i + 1 : Nat) : Int) := by
  intro k
  induction k with
  | zero => intro A B h; omega
  | succ k ih =>
    intro A B h hl
    have hl' := hl
    simp only [List.length_append, List.length_cons] at hl'
    rcases jy A with rfl | ⟨A', y, rfl⟩
    · refine ⟨[], [], rfl, (fun y hy => by cases hy), (fun y hy => by cases hy), ?_⟩
      rw [qd.l2, qE, if_neg (by simp)]
      unfold qd.j3
      rw [cond_false, qQ, show qk ((i : Int) + 1) = ((i + 1 : Nat) : Int) from by rw [qK (by omega) (by omega)]; rfl]
      simp
    · simp only [List.length_append, List.length_cons, List.length_nil] at h hl' ⊢
      have ej : (((P.length + (A'.length + (0 + 1)) : Nat)) : Int) = ((P ++ (A' ++ [y])).length : Int) := by simp
      have ej1 : qk (((P.length + (A'.length + (0 + 1)) : Nat) : Int) - 1) = ((P ++ A').length : Int) := by rw [qK (by omega) (by omega)]; simp only [List.length_append]; omega
      have d1 : P ++ (A' ++ [y]) ++ x :: (B ++ Q) = (P ++ A') ++ y :: (x :: (B ++ Q)) := by simp
      have r1 : rd (P ++ (A' ++ [y]) ++ x :: (B ++ Q)) (((P.length + (A'.length + (0 + 1)) : Nat)) : Int) = x := x8 _ _ _ ej
      have r2 : rd (P ++ (A' ++ [y]) ++ x :: (B ++ Q)) ((P ++ A').length : Int) = y := by rw [d1]; exact x8 _ _ _ rfl
      have b1 : inb (((P.length + (A'.length + (0 + 1)) : Nat)) : Int) (P ++ (A' ++ [y]) ++ x :: (B ++ Q)).length = true := yd _ _ _ ej
      have b2 : inb ((P ++ A').length : Int) (P ++ (A' ++ [y]) ++ x :: (B ++ Q)).length = true := by rw [d1]; exact yd _ _ _ rfl
      rw [qd.l2, qE, if_pos (by omega), b1, qv, ej1, b2, qv, r1, r2, ym, ym, Vi, qW.bind_ok, vY]
      unfold qd.j3
      rw [qE]
      by_cases hxy : x.often_ < y.often_
      · rw [if_pos hxy, ej1, b2, qv, b1, qv, r1, r2, ym, ym, qQ]
        have s1 : (P ++ (A' ++ [y]) ++ x :: (B ++ Q)).set (Int.toNat (((P.length + (A'.length + (0 + 1)) : Nat)) : Int)) y = (P ++ A') ++ y :: (y :: (B ++ Q)) := by rw [jS _ _ _ _ ej]; simp
        rw [s1, yd _ _ _ rfl, qv, jS _ _ _ _ rfl, qQ, qQ]
        obtain ⟨A1, A2, h1, h2, h3, h4⟩ := ih A' (y :: B) (by omega) (by simp only [List.length_append, List.length_cons]; omega)
        refine ⟨A1, A2 ++ [y], by rw [h1]; simp, fun z hz => ?_, h3, ?_⟩
        · rcases List.mem_append.1 hz with hz | hz
          · exact h2 z hz
          · simp at hz; subst hz; exact hxy
        · have : ((P ++ A').length : Int) = ((P.length + A'.length : Nat) : Int) := by simp
          rw [this]
          refine h4.trans ?_
          simp
      · refine ⟨A' ++ [y], [], by simp, fun z hz => (by cases hz), fun z hz => ?_, ?_⟩
        · simp at hz; subst hz; omega
        · rw [if_neg hxy, qQ, show qk ((i : Int) + 1) = ((i + 1 : Nat) : Int) from by rw [qK (by omega) (by omega)]; rfl]
          simp
theorem SS.snoc {S0 S S' : List PK} {x : PK} (h : SS S0 S) (h' : SS (S ++ [x]) S') : SS (S0 ++ [x]) S' :=
  ⟨h'.1, h'.2.1.trans (h.2.1.append_right _), fun k => by rw [h'.2.2 k, List.filter_append, h.2.2 k, ← List.filter_append]⟩
theorem Yl (K : Nat) (P Q : List PK) (hK : (1099511627776 : Nat) > K) : ∀ (T S0 S : List PK) (k : Nat), SS S0 S → 0 < S.length → T.length < k → (P ++ S ++ T ++ Q).length < K →
    ∃ S', SS (S0 ++ T) S' ∧ qd.l1 K (P.length : Int) ((P.length + S.length + T.length : Nat) : Int) k (P ++ S ++ T ++ Q) ((P.length + S.length : Nat) : Int) = .ok (P ++ S' ++ Q)
  | [], S0, S, k, hs, h0, hk, hl => by
    obtain ⟨k, rfl⟩ : ∃ m, k = m + 1 := ⟨k - 1, by simp at hk; omega⟩
    refine ⟨S, by simpa using hs, ?_⟩
    rw [qd.l1, qE, if_neg (by simp)]
    simp
  | x :: T, S0, S, k, hs, h0, hk, hl => by
    obtain ⟨k, rfl⟩ : ∃ m, k = m + 1 := ⟨k - 1, by simp at hk; omega⟩
    simp only [List.length_cons, List.length_append] at hk hl
    rw [qd.l1, qE, if_pos (by simp only [List.length_cons]; omega)]
    obtain ⟨A1, A2, h1, h2, h3, h4⟩ := VL K (qd.l1 K (P.length : Int) ((P.length + S.length + (x :: T).length : Nat) : Int) k) (P.length + S.length) P (T ++ Q) x (by omega) K S []
      (by omega) (by simp only [List.length_append, List.length_cons, List.length_nil]; omega)
    simp only [List.nil_append, List.append_nil] at h4
    rw [show P ++ S ++ x :: T ++ Q = P ++ S ++ x :: (T ++ Q) from by simp, h4]
    subst h1
    have hss := SS.ins hs.1 (hs.1.left.last h3) h2
    simp only [List.length_append] at hl
    obtain ⟨S', g1, g2⟩ := Yl K P Q hK T (S0 ++ [x]) (A1 ++ x :: A2) k (hs.snoc hss) (by simp only [List.length_append, List.length_cons]; omega) (by omega) (by simp only [List.length_append, List.length_cons]; omega)
    refine ⟨S', by simpa using g1, ?_⟩
    rw [← g2]
    simp only [List.length_append, List.length_cons, List.append_assoc, List.cons_append]
    congr 2 <;> (simp only [Nat.add_assoc]; congr 1 <;> omega)
theorem Q7 (K : Nat) (P S Q : List PK) (hK : (1099511627776 : Nat) > K) (hl : (P ++ S ++ Q).length + 1 < K) {a b : Int} (ha : a = (P.length : Int)) (hb : b = ((P.length + S.length : Nat) : Int)) :
    ∃ S', SS S S' ∧ qd.m K (P ++ S ++ Q) a b = .ok (P ++ S' ++ Q) := by
  subst ha; subst hb
  unfold qd.m
  have hl' := hl
  simp only [List.length_append] at hl'
  rw [qQ, show qk ((P.length : Int) + 1) = ((P.length + 1 : Nat) : Int) from by rw [qK (by omega) (by omega)]; rfl]
  cases S with
  | nil =>
    refine ⟨[], ⟨List.Pairwise.nil, List.Perm.refl _, fun _ => rfl⟩, ?_⟩
    obtain ⟨k, rfl⟩ : ∃ m, K = m + 1 := ⟨K - 1, by omega⟩
    rw [qd.l1, qE, if_neg (by simp only [List.length_nil]; omega)]
  | cons x S =>
    simp only [List.length_cons] at hl'
    obtain ⟨S', h1, h2⟩ := Yl K P Q hK S [x] [x] K (SS.refl (List.pairwise_singleton _ _)) (by simp) (by omega) (by simp only [List.length_append, List.length_cons, List.length_nil]; omega)
    refine ⟨S', by simpa using h1, ?_⟩
    rw [← h2]
    simp only [List.length_cons, List.length_nil, List.append_assoc, List.cons_append, List.nil_append]
    congr 2
    omega
end Go.Pu

set_option maxRecDepth 100000
namespace Go.Pu
open Go Go.Sl Go.Mo
theorem Yr {i j : Nat} (h : i + j < 1099511627776) : wr .i64 (zR .u64 (wr .u64 (qk ((i : Int) + (j : Int)))) 1) = (((i + j) / 2 : Nat) : Int) := by
  rw [show qk ((i : Int) + (j : Int)) = ((i + j : Nat) : Int) from by rw [qK (by omega) (by omega)]; rfl, ZR (by omega) (by omega)]
  have := yQ (k := .u64) (a := i + j) (n := 1) (by decide)
  rw [show ((1 : Nat) : Int) = 1 from rfl] at this
  rw [this, ZZ (by omega) (by omega)]
theorem ug {α : Type} [Inhabited α] (X Y : List α) (t : Nat) : rd (X ++ Y) ((X.length + t : Nat) : Int) = rd Y (t : Int) := by
  simp only [rd, Int.toNat_natCast, List.getD]
  rw [List.getElem?_append_right (by omega), Nat.add_sub_cancel_left]
theorem yt {α : Type} [Inhabited α] (X Y : List α) {t : Nat} (h : t < X.length) : rd (X ++ Y) (t : Int) = rd X (t : Int) := by
  simp only [rd, Int.toNat_natCast, List.getD]
  rw [List.getElem?_append_left h]
theorem yE {α : Type} [Inhabited α] {X : List α} {x : α} (h : x ∈ X) : ∃ i, i < X.length ∧ x = rd X (i : Int) := by
  obtain ⟨i, hi, rfl⟩ := List.getElem_of_mem h
  exact ⟨i, hi, by simp [rd, List.getD, hi]⟩
theorem Zh {α : Type} [Inhabited α] {X : List α} {n t : Nat} (h : t < n) : rd (X.take n) (t : Int) = rd X (t : Int) := by
  simp only [rd, Int.toNat_natCast, List.getD, List.getElem?_take, if_pos h]
theorem ZB {α : Type} [Inhabited α] {X : List α} {n t : Nat} : rd (X.drop n) (t : Int) = rd X ((n + t : Nat) : Int) := by
  simp only [rd, Int.toNat_natCast, List.getD, List.getElem?_drop]
theorem yC.rd {X : List PK} (h : yC X) {i j : Nat} (hij : i ≤ j) (hj : j < X.length) : (Sl.rd X (i : Int)).often_ ≤ (Sl.rd X (j : Int)).often_ := by
  by_cases he : i = j
  · subst he; exact Int.le_refl _
  · have := List.pairwise_iff_getElem.1 h i j (by omega) hj (by omega)
    have h1 : i < X.length := by omega
    simp only [Sl.rd, Int.toNat_natCast, List.getD, List.getElem?_eq_getElem h1, List.getElem?_eq_getElem hj]
    exact this
theorem QP {i n : Nat} (h : i < n) : inb (i : Int) n = true := by simp only [inb, decide_eq_true_eq]; omega
theorem Ut (K : Nat) (rc : List PK → Int → Int → Int → qW (List PK)) (P B Q : List PK) (x : PK) (hB : yC B) (hl : (P ++ [x] ++ B ++ Q).length < 549755813888) : ∀ (k i j : Nat), i ≤ j → j ≤ B.length → j - i < k →
    (∀ t, t < i → (rd B (t : Int)).often_ < x.often_) → (∀ t, j ≤ t → t < B.length → x.often_ ≤ (rd B (t : Int)).often_) →
    ∃ q, q ≤ B.length ∧ (∀ t, t < q → (rd B (t : Int)).often_ < x.often_) ∧ (∀ t, q ≤ t → t < B.length → x.often_ ≤ (rd B (t : Int)).often_) ∧
      qa.l1 K rc (P ++ [x] ++ B ++ Q) (P.length : Int) k ((P.length + 1 + i : Nat) : Int) ((P.length + 1 + j : Nat) : Int) =
        qa.j2 K rc (P ++ [x] ++ B ++ Q) (P.length : Int) ((P.length + 1 + q : Nat) : Int) := by
  intro k
  induction k with
  | zero => intro i j h1 h2 h3; omega
  | succ k ih =>
    intro i j h1 h2 h3 hlo hhi
    have hl' := hl
    simp only [List.length_append, List.length_cons, List.length_nil] at hl'
    rw [qa.l1, qE]
    by_cases hij : i < j
    · rw [if_pos (by omega), Yr (by omega), qQ]
      obtain ⟨h, hh⟩ : ∃ h, (P.length + 1 + i + (P.length + 1 + j)) / 2 = P.length + 1 + h := ⟨(P.length + 1 + i + (P.length + 1 + j)) / 2 - (P.length + 1), by omega⟩
      have hi1 : i ≤ h := by omega
      have hi2 : h < j := by omega
      have r1 : rd (P ++ [x] ++ B ++ Q) ((P.length + 1 + h : Nat) : Int) = rd B (h : Int) := by
        have := ug (P ++ [x]) (B ++ Q) h
        rw [yt B Q (by omega)] at this
        simpa using this
      have r2 : rd (P ++ [x] ++ B ++ Q) (P.length : Int) = x := by
        rw [show P ++ [x] ++ B ++ Q = P ++ x :: (B ++ Q) from by simp]; exact x8 _ _ _ rfl
      rw [hh, QP (by simp only [List.length_append, List.length_cons, List.length_nil]; omega), qv, QP (by simp only [List.length_append, List.length_cons, List.length_nil]; omega), qv, r1, r2, ym, ym, Vi, qW.bind_ok, vY, qE]
      by_cases hc : (rd B (h : Int)).often_ < x.often_
      · rw [if_pos hc, qQ, show qk (((P.length + 1 + h : Nat) : Int) + 1) = ((P.length + 1 + (h + 1) : Nat) : Int) from by rw [qK (by omega) (by omega)]; omega]
        exact ih (h + 1) j (by omega) h2 (by omega) (fun t ht => by have := hB.rd (i := t) (j := h) (by omega) (by omega); omega) hhi
      · rw [if_neg hc]
        exact ih i h hi1 (by omega) (by omega) hlo (fun t ht htl => by have := hB.rd (i := h) (j := t) ht htl; omega)
    · rw [if_neg (by omega)]
      have : i = j := by omega
      subst this
      exact ⟨i, h2, hlo, hhi, rfl⟩
theorem V7 (K : Nat) (rc : List PK → Int → Int → Int → qW (List PK)) (x : PK) : ∀ (D P Q : List PK) (k : Nat), D.length < k → (P ++ x :: (D ++ Q)).length < 549755813888 → ∀ i : Int, i = ((P.length + 1 + D.length : Nat) : Int) →
    qa.l3 K rc i k (P ++ x :: (D ++ Q)) (P.length : Int) = .ok (P ++ D ++ x :: Q)
  | [], P, Q, k, hk, hl, i, hi => by
    obtain ⟨k, rfl⟩ : ∃ m, k = m + 1 := ⟨k - 1, by simp at hk; omega⟩
    simp only [List.length_append, List.length_cons, List.length_nil] at hl hi
    subst hi
    rw [qa.l3, qE, if_neg (by rw [qK (by omega) (by omega)]; omega)]
    simp
  | y :: D, P, Q, k, hk, hl, i, hi => by
    obtain ⟨k, rfl⟩ : ∃ m, k = m + 1 := ⟨k - 1, by simp at hk; omega⟩
    simp only [List.length_append, List.length_cons] at hl hi hk
    have ih := V7 K rc x D (P ++ [y]) Q k (by omega) (by simp only [List.length_append, List.length_cons, List.length_nil]; omega) i (by rw [hi]; simp only [List.length_append, List.length_cons, List.length_nil]; omega)
    subst hi
    have e1 : qk ((P.length : Int) + 1) = ((P ++ [x]).length : Int) := by rw [qK (by omega) (by omega)]; simp
    have d1 : P ++ x :: (y :: D ++ Q) = (P ++ [x]) ++ y :: (D ++ Q) := by simp
    have r1 : rd (P ++ x :: (y :: D ++ Q)) ((P ++ [x]).length : Int) = y := by rw [d1]; exact x8 _ _ _ rfl
    have r2 : rd (P ++ x :: (y :: D ++ Q)) (P.length : Int) = x := x8 _ _ _ rfl
    have b1 : inb ((P ++ [x]).length : Int) (P ++ x :: (y :: D ++ Q)).length = true := by rw [d1]; exact yd _ _ _ rfl
    rw [qa.l3, qE, if_pos (by rw [qK (by omega) (by omega)]; omega), e1, b1, qv, yd _ _ _ rfl, qv, r1, r2, ym, ym, jS _ _ _ _ rfl, qQ]
    have d2 : P ++ y :: (y :: D ++ Q) = (P ++ [y]) ++ y :: (D ++ Q) := by simp
    have e2 : ((P ++ [x]).length : Int) = ((P ++ [y]).length : Int) := by simp
    rw [d2, e2, yd _ _ _ rfl, qv, jS _ _ _ _ rfl, qQ, qQ, ih]
    simp
theorem Uy (K : Nat) (rc : List PK → Int → Int → Int → qW (List PK)) (P A Q : List PK) (x : PK) (hA : yC A) (hl : (P ++ A ++ x :: Q).length < 549755813888) : ∀ (k i j : Nat), i ≤ j → j ≤ A.length → j - i < k →
    (∀ t, t < i → (rd A (t : Int)).often_ ≤ x.often_) → (∀ t, j ≤ t → t < A.length → x.often_ < (rd A (t : Int)).often_) →
    ∃ q, q ≤ A.length ∧ (∀ t, t < q → (rd A (t : Int)).often_ ≤ x.often_) ∧ (∀ t, q ≤ t → t < A.length → x.often_ < (rd A (t : Int)).often_) ∧
      qa.l5 K rc (P ++ A ++ x :: Q) ((P.length + A.length : Nat) : Int) k ((P.length + i : Nat) : Int) ((P.length + j : Nat) : Int) =
        qa.j6 K rc (P ++ A ++ x :: Q) ((P.length + A.length : Nat) : Int) ((P.length + q : Nat) : Int) := by
  intro k
  induction k with
  | zero => intro i j h1 h2 h3; omega
  | succ k ih =>
    intro i j h1 h2 h3 hlo hhi
    have hl' := hl
    simp only [List.length_append, List.length_cons] at hl'
    rw [qa.l5, qE]
    by_cases hij : i < j
    · rw [if_pos (by omega), Yr (by omega), qQ]
      obtain ⟨h, hh⟩ : ∃ h, (P.length + i + (P.length + j)) / 2 = P.length + h := ⟨(P.length + i + (P.length + j)) / 2 - P.length, by omega⟩
      have hi1 : i ≤ h := by omega
      have hi2 : h < j := by omega
      have r1 : rd (P ++ A ++ x :: Q) ((P.length + h : Nat) : Int) = rd A (h : Int) := by
        have := ug P (A ++ x :: Q) h
        rw [yt A (x :: Q) (by omega)] at this
        simpa using this
      have r2 : rd (P ++ A ++ x :: Q) ((P.length + A.length : Nat) : Int) = x := x8 _ _ _ (by simp)
      rw [hh, QP (by simp only [List.length_append, List.length_cons]; omega), qv, QP (by simp only [List.length_append, List.length_cons]; omega), qv, r1, r2, ym, ym, Vi, qW.bind_ok, vY, Xq, qE]
      by_cases hc : x.often_ < (rd A (h : Int)).often_
      · rw [if_pos hc]
        exact ih i h hi1 (by omega) (by omega) hlo (fun t ht htl => by have := hA.rd (i := h) (j := t) ht htl; omega)
      · rw [if_neg hc, qQ, show qk (((P.length + h : Nat) : Int) + 1) = ((P.length + (h + 1) : Nat) : Int) from by rw [qK (by omega) (by omega)]; omega]
        exact ih (h + 1) j (by omega) h2 (by omega) (fun t ht => by have := hA.rd (i := t) (j := h) (by omega) (by omega); omega) hhi
    · rw [if_neg (by omega)]
      have : i = j := by omega
      subst this
      exact ⟨i, h2, hlo, hhi, rfl⟩
theorem UG (K : Nat) (rc : List PK → Int → Int → Int → qW (List PK)) (x : PK) (P : List PK) : ∀ (k : Nat) (D Q : List PK), D.length < k → (P ++ D ++ x :: Q).length < 549755813888 →
    qa.l7 K rc (P.length : Int) k (P ++ D ++ x :: Q) ((P.length + D.length : Nat) : Int) = .ok (P ++ x :: (D ++ Q)) := by
  intro k
  induction k with
  | zero => intro D Q h; omega
  | succ k ih =>
    intro D Q hk hl
    simp only [List.length_append, List.length_cons] at hl
    rcases jy D with rfl | ⟨D', y, rfl⟩
    · rw [qa.l7, qE, if_neg (by simp)]; simp
    · simp only [List.length_append, List.length_cons, List.length_nil] at hl hk ⊢
      have ej : (((P.length + (D'.length + (0 + 1)) : Nat)) : Int) = ((P ++ (D' ++ [y])).length : Int) := by simp
      have ej1 : qk (((P.length + (D'.length + (0 + 1)) : Nat) : Int) - 1) = ((P ++ D').length : Int) := by rw [qK (by omega) (by omega)]; simp only [List.length_append]; omega
      have d1 : P ++ (D' ++ [y]) ++ x :: Q = (P ++ D') ++ y :: (x :: Q) := by simp
      have r1 : rd (P ++ (D' ++ [y]) ++ x :: Q) (((P.length + (D'.length + (0 + 1)) : Nat)) : Int) = x := x8 _ _ _ ej
      have r2 : rd (P ++ (D' ++ [y]) ++ x :: Q) ((P ++ D').length : Int) = y := by rw [d1]; exact x8 _ _ _ rfl
      have b1 : inb (((P.length + (D'.length + (0 + 1)) : Nat)) : Int) (P ++ (D' ++ [y]) ++ x :: Q).length = true := yd _ _ _ ej
      have b2 : inb ((P ++ D').length : Int) (P ++ (D' ++ [y]) ++ x :: Q).length = true := by rw [d1]; exact yd _ _ _ rfl
      have s1 : (P ++ (D' ++ [y]) ++ x :: Q).set (Int.toNat (((P.length + (D'.length + (0 + 1)) : Nat)) : Int)) y = (P ++ D') ++ y :: (y :: Q) := by rw [jS _ _ _ _ ej]; simp
      rw [qa.l7, qE, if_pos (by omega), ej1, b2, qv, b1, qv, r1, r2, ym, ym, s1, qQ, yd _ _ _ rfl, qv, jS _ _ _ _ rfl, qQ, qQ]
      have := ih D' (y :: Q) (by omega) (by simp only [List.length_append, List.length_cons]; omega)
      rw [show ((P ++ D').length : Int) = ((P.length + D'.length : Nat) : Int) from by simp, this]
      simp
theorem UU (K : Nat) (rc : List PK → Int → Int → Int → qW (List PK)) (P B Q : List PK) (x : PK) (hB : yC B) (hl : (P ++ [x] ++ B ++ Q).length < 549755813888) (hK : B.length < K) :
    ∃ M, SS ([x] ++ B) M ∧ qa.l1 K rc (P ++ [x] ++ B ++ Q) (P.length : Int) K ((P.length + 1 : Nat) : Int) ((P.length + 1 + B.length : Nat) : Int) = .ok (P ++ M ++ Q) := by
  obtain ⟨q, h1, h2, h3, h4⟩ := Ut K rc P B Q x hB hl K 0 B.length (by omega) (by omega) (by omega) (fun t ht => by omega) (fun t ht htl => by omega)
  have hq : (B.take q).length = q := by rw [List.length_take]; omega
  refine ⟨B.take q ++ x :: B.drop q, ⟨?_, ?_, fun k => ?_⟩, ?_⟩
  · refine yC.append (A := B.take q) (hB.sublist (List.take_sublist ..)) (List.pairwise_cons.2 ⟨fun y hy => ?_, hB.sublist (List.drop_sublist ..)⟩) fun a ha y hy => ?_
    · obtain ⟨i, hi, rfl⟩ := yE hy
      rw [List.length_drop] at hi
      rw [ZB]; exact h3 _ (by omega) (by omega)
    · obtain ⟨i, hi, rfl⟩ := yE ha
      rw [hq] at hi
      rw [Zh hi]
      have hax := h2 i hi
      rcases List.mem_cons.1 hy with rfl | hy
      · omega
      · obtain ⟨j, hj, rfl⟩ := yE hy
        rw [List.length_drop] at hj
        rw [ZB]; exact hB.rd (by omega) (by omega)
  · refine List.Perm.trans ?_ (List.Perm.of_eq (by simp : [x] ++ (B.take q ++ B.drop q) = [x] ++ B))
    rw [← List.append_assoc, show B.take q ++ x :: B.drop q = (B.take q ++ [x]) ++ B.drop q from by simp]
    exact List.Perm.append_right _ List.perm_append_comm
  · have := vq (X := [x]) (Y := B.take q) (fun a ha y hy => by
      simp at ha; subst ha
      obtain ⟨i, hi, rfl⟩ := yE hy
      rw [hq] at hi
      rw [Zh hi]; exact h2 i hi) k
    rw [show B.take q ++ x :: B.drop q = (B.take q ++ [x]) ++ B.drop q from by simp, List.filter_append, ← this, ← List.filter_append, List.append_assoc, List.take_append_drop]
  · rw [show ((P.length + 1 + 0 : Nat) : Int) = ((P.length + 1 : Nat) : Int) from rfl] at h4
    rw [h4]
    unfold qa.j2
    have hl' := hl
    simp only [List.length_append, List.length_cons, List.length_nil] at hl'
    have := V7 K rc x (B.take q) P (B.drop q ++ Q) K (by omega) (by simp only [List.length_append, List.length_cons, List.length_drop]; omega) ((P.length + 1 + q : Nat) : Int) (by rw [hq])
    rw [show P ++ x :: (B.take q ++ (B.drop q ++ Q)) = P ++ [x] ++ B ++ Q from by rw [← List.append_assoc (B.take q), List.take_append_drop]; simp] at this
    rw [this]
    simp
theorem U6 (K : Nat) (rc : List PK → Int → Int → Int → qW (List PK)) (P A Q : List PK) (x : PK) (hA : yC A) (hl : (P ++ A ++ x :: Q).length < 549755813888) (hK : A.length < K) :
    ∃ M, SS (A ++ [x]) M ∧ qa.l5 K rc (P ++ A ++ x :: Q) ((P.length + A.length : Nat) : Int) K (P.length : Int) ((P.length + A.length : Nat) : Int) = .ok (P ++ M ++ Q) := by
  obtain ⟨q, h1, h2, h3, h4⟩ := Uy K rc P A Q x hA hl K 0 A.length (by omega) (by omega) (by omega) (fun t ht => by omega) (fun t ht htl => by omega)
  have hq : (A.take q).length = q := by rw [List.length_take]; omega
  refine ⟨A.take q ++ x :: A.drop q, ?_, ?_⟩
  · have := SS.ins (A1 := A.take q) (A2 := A.drop q) (x := x) (by rw [List.take_append_drop]; exact hA) (fun y hy => by
      obtain ⟨i, hi, rfl⟩ := yE hy
      rw [hq] at hi
      rw [Zh hi]; exact h2 i hi) (fun y hy => by
      obtain ⟨i, hi, rfl⟩ := yE hy
      rw [List.length_drop] at hi
      rw [ZB]; exact h3 _ (by omega) (by omega))
    rwa [List.take_append_drop] at this
  · rw [show ((P.length + 0 : Nat) : Int) = (P.length : Int) from rfl] at h4
    rw [h4]
    unfold qa.j6
    have hl' := hl
    simp only [List.length_append, List.length_cons] at hl'
    have := UG K rc x (P ++ A.take q) K (A.drop q) Q (by rw [List.length_drop]; omega) (by simp only [List.length_append, List.length_cons, List.length_drop, hq]; omega)
    rw [show P ++ A.take q ++ A.drop q ++ x :: Q = P ++ A ++ x :: Q from by rw [List.append_assoc P, List.take_append_drop], show ((P ++ A.take q).length + (A.drop q).length : Nat) = P.length + A.length from by simp only [List.length_append, List.length_drop, hq]; omega,
      show ((P ++ A.take q).length : Int) = ((P.length + q : Nat) : Int) from by simp only [List.length_append, hq]] at this
    rw [this]
    simp
end Go.Pu

set_option maxRecDepth 100000
namespace Go.Pu
open Go Go.Sl Go.Mo
theorem SS.join {A1 A2 B1 B2 M1 M2 : List PK} (h1 : SS (A1 ++ B1) M1) (h2 : SS (A2 ++ B2) M2) (hA : yC (A1 ++ A2)) (hB : yC (B1 ++ B2)) (h12 : ∀ x ∈ A1, ∀ y ∈ B2, x.often_ ≤ y.often_) (h21 : ∀ x ∈ B1, ∀ y ∈ A2, x.often_ < y.often_) :
    SS ((A1 ++ A2) ++ (B1 ++ B2)) (M1 ++ M2) := by
  refine ⟨yC.append h1.1 h2.1 fun x hx y hy => ?_, ?_, fun k => ?_⟩
  · have hx' := h1.2.1.mem_iff.1 hx
    have hy' := h2.2.1.mem_iff.1 hy
    rcases List.mem_append.1 hx' with hx' | hx' <;> rcases List.mem_append.1 hy' with hy' | hy'
    · exact hA.cross x hx' y hy'
    · exact h12 x hx' y hy'
    · exact Int.le_of_lt (h21 x hx' y hy')
    · exact hB.cross x hx' y hy'
  · refine (h1.2.1.append h2.2.1).trans ?_
    simp only [List.append_assoc]
    refine List.Perm.append_left _ ?_
    rw [← List.append_assoc, ← List.append_assoc]
    exact List.Perm.append_right _ List.perm_append_comm
  · have := vq (X := A2) (Y := B1) (fun x hx y hy => h21 y hy x hx) k
    simp only [List.filter_append] at this
    simp only [List.filter_append, h1.2.2 k, h2.2.2 k]
    rw [List.append_assoc, List.append_assoc, ← List.append_assoc (List.filter _ B1), ← this]
    simp only [List.append_assoc]
section
variable (K : Nat) (rc : List PK → Int → Int → Int → qW (List PK)) (P A B Q : List PK)
theorem UN (hA : yC A) (hB : yC B) (hl : (P ++ A ++ B ++ Q).length < 274877906944) (mid : Nat) (hmid : 2 * mid ≤ 2 * P.length + A.length + B.length) (hmid2 : P.length ≤ mid) {md n_ p_ a_ m_ b_ : Int} (hn : n_ = ((mid + (P.length + A.length) : Nat) : Int)) (hp : p_ = ((mid + (P.length + A.length) : Nat) : Int) - 1) :
    ∀ (k s r : Nat), s ≤ r → r ≤ A.length → P.length + r ≤ mid → mid ≤ P.length + s + B.length → r - s < k → (∀ t, t < s → t < A.length → ∀ j, mid - P.length - s ≤ j → j < B.length → (rd A (t : Int)).often_ ≤ (rd B (j : Int)).often_) →
    (∀ t, r ≤ t → t < A.length → ∀ j, j < mid - P.length - r → (rd B (j : Int)).often_ < (rd A (t : Int)).often_) →
    ∃ q, s ≤ q ∧ q ≤ r ∧ (∀ t, t < q → t < A.length → ∀ j, mid - P.length - q ≤ j → j < B.length → (rd A (t : Int)).often_ ≤ (rd B (j : Int)).often_) ∧
      (∀ t, q ≤ t → t < A.length → ∀ j, j < mid - P.length - q → (rd B (j : Int)).often_ < (rd A (t : Int)).often_) ∧
      qa.l10 K rc (P ++ A ++ B ++ Q) a_ m_ b_ md n_ p_ k ((P.length + s : Nat) : Int) ((P.length + r : Nat) : Int) =
        qa.j11 K rc (P ++ A ++ B ++ Q) a_ m_ b_ md n_ ((P.length + q : Nat) : Int) := by
  intro k
  induction k with
  | zero => intro s r h1 h2 h3 h4 h5; omega
  | succ k ih =>
    intro s r h1 h2 h3 h4 h5 hlo hhi
    have hl' := hl
    simp only [List.length_append] at hl'
    rw [qa.l10, qE]
    by_cases hsr : s < r
    · rw [if_pos (by omega), Yr (by omega), qQ]
      obtain ⟨c, hc⟩ : ∃ c, (P.length + s + (P.length + r)) / 2 = P.length + c := ⟨(P.length + s + (P.length + r)) / 2 - P.length, by omega⟩
      have hc1 : s ≤ c := by omega
      have hc2 : c < r := by omega
      -- the place in B
      obtain ⟨j, hj⟩ : ∃ j, mid - P.length - 1 - c = j := ⟨_, rfl⟩
      have hjl : j < B.length := by omega
      have e1 : qk (p_ - ((P.length + c : Nat) : Int)) = ((P.length + A.length + j : Nat) : Int) := by subst hp; rw [qK (by omega) (by omega)]; omega
      have r1 : rd (P ++ A ++ B ++ Q) ((P.length + A.length + j : Nat) : Int) = rd B (j : Int) := by
        have := ug (P ++ A) (B ++ Q) j
        rw [yt B Q hjl] at this
        simpa using this
      have r2 : rd (P ++ A ++ B ++ Q) ((P.length + c : Nat) : Int) = rd A (c : Int) := by
        have := ug P (A ++ (B ++ Q)) c
        rw [yt A (B ++ Q) (by omega)] at this
        simpa using this
      rw [hc, e1, QP (by simp only [List.length_append]; omega), qv, QP (by simp only [List.length_append]; omega), qv, r1, r2, ym, ym, Vi, qW.bind_ok, vY, Xq, qE]
      by_cases hlt : (rd B (j : Int)).often_ < (rd A (c : Int)).often_
      · rw [if_pos hlt]
        obtain ⟨q, q1, q2, q3⟩ := ih s c hc1 (by omega) (by omega) h4 (by omega) hlo (fun t ht htl i hi => by
          have g1 := hA.rd (i := c) (j := t) ht htl
          have g2 := hB.rd (i := i) (j := j) (by omega) hjl
          omega)
        exact ⟨q, q1, by omega, q3⟩
      · rw [if_neg hlt, qQ, show qk (((P.length + c : Nat) : Int) + 1) = ((P.length + (c + 1) : Nat) : Int) from by rw [qK (by omega) (by omega)]; omega]
        obtain ⟨q, q1, q2, q3⟩ := ih (c + 1) r (by omega) h2 h3 (by omega) (by omega) (fun t ht htl i hi hil => by
          have g1 := hA.rd (i := t) (j := c) (by omega) (by omega)
          have g2 := hB.rd (i := j) (j := i) (by omega) hil
          omega) hhi
        exact ⟨q, by omega, q2, q3⟩
    · rw [if_neg (by omega)]
      have : s = r := by omega
      subst this
      exact ⟨s, Nat.le_refl _, Nat.le_refl _, hlo, hhi, rfl⟩
end
theorem Vd (K : Nat) : ∀ (d : Nat) (P A B Q : List PK), yC A → yC B → 0 < A.length → 0 < B.length → A.length + B.length ≤ d → (P ++ A ++ B ++ Q).length < 274877906944 → (P ++ A ++ B ++ Q).length < K →
    ∃ M, SS (A ++ B) M ∧ qa.r K d (P ++ A ++ B ++ Q) (P.length : Int) ((P.length + A.length : Nat) : Int) ((P.length + A.length + B.length : Nat) : Int) = .ok (P ++ M ++ Q) := by
  intro d
  induction d with
  | zero => intro P A B Q _ _ h0 h1 h; omega
  | succ d ih =>
    intro P A B Q hA hB hA0 hB0 hd hl hK
    have hl' := hl; have hK' := hK
    simp only [List.length_append] at hl' hK'
    rw [qa.r, qa.b, xz, qK (by omega) (by omega)]
    by_cases hA1 : A.length = 1
    · rw [if_pos (by omega)]
      obtain ⟨x, rfl⟩ := List.length_eq_one_iff.1 hA1
      exact UU K _ P B Q x hB (by omega) (by omega)
    rw [if_neg (by omega)]
    unfold qa.j4
    rw [xz, qK (by omega) (by omega)]
    by_cases hB1 : B.length = 1
    · rw [if_pos (by omega)]
      obtain ⟨x, rfl⟩ := List.length_eq_one_iff.1 hB1
      have := U6 K (qa.r K d) P A Q x hA (by simp only [List.length_append, List.length_cons] at hl ⊢; simp only [List.length_nil] at hl; omega) (by omega)
      simpa using this
    rw [if_neg (by omega)]
    unfold qa.j8
    obtain ⟨mid, hmid⟩ : ∃ mid, (P.length + (P.length + A.length + B.length)) / 2 = mid := ⟨_, rfl⟩
    rw [Yr (by omega), hmid, qQ, show qk ((mid : Int) + ((P.length + A.length : Nat) : Int)) = ((mid + (P.length + A.length) : Nat) : Int) from by rw [qK (by omega) (by omega)]; omega, qQ, qE]
    -- the two ways to begin
    have key : ∃ s0 r0, s0 ≤ r0 ∧ r0 ≤ A.length ∧ P.length + r0 ≤ mid ∧ mid ≤ P.length + s0 + B.length ∧ (s0 = 0 ∨ mid = P.length + s0 + B.length) ∧ (r0 = A.length ∨ P.length + r0 = mid) ∧
        (if ((P.length + A.length : Nat) : Int) > (mid : Int) then lt (qk (((mid + (P.length + A.length) : Nat) : Int) - ((P.length + A.length + B.length : Nat) : Int))) fun start5172 => qa.j9 K (qa.r K d) (P ++ A ++ B ++ Q) (P.length : Int) ((P.length + A.length : Nat) : Int) ((P.length + A.length + B.length : Nat) : Int) (mid : Int) ((mid + (P.length + A.length) : Nat) : Int) start5172 (mid : Int)
          else qa.j9 K (qa.r K d) (P ++ A ++ B ++ Q) (P.length : Int) ((P.length + A.length : Nat) : Int) ((P.length + A.length + B.length : Nat) : Int) (mid : Int) ((mid + (P.length + A.length) : Nat) : Int) (P.length : Int) ((P.length + A.length : Nat) : Int)) =
        qa.j9 K (qa.r K d) (P ++ A ++ B ++ Q) (P.length : Int) ((P.length + A.length : Nat) : Int) ((P.length + A.length + B.length : Nat) : Int) (mid : Int) ((mid + (P.length + A.length) : Nat) : Int) ((P.length + s0 : Nat) : Int) ((P.length + r0 : Nat) : Int) := by
      by_cases hm : ((P.length + A.length : Nat) : Int) > (mid : Int)
      · refine ⟨mid - P.length - B.length, mid - P.length, by omega, by omega, by omega, by omega, by omega, by omega, ?_⟩
        rw [if_pos hm, qQ]
        congr 1
        · rw [qK (by omega) (by omega)]; omega
        · omega
      · refine ⟨0, A.length, by omega, by omega, by omega, by omega, by omega, by omega, ?_⟩
        rw [if_neg hm]
        rfl
    obtain ⟨s0, r0, g1, g2, g3, g4, g5, g6, g7⟩ := key
    rw [g7]
    unfold qa.j9
    rw [qQ]
    obtain ⟨q, q1, q2, q3, q4, q5⟩ := UN K (qa.r K d) P A B Q hA hB hl mid (by omega) (by omega) (md := (mid : Int)) (n_ := ((mid + (P.length + A.length) : Nat) : Int)) (p_ := qk (((mid + (P.length + A.length) : Nat) : Int) - 1)) (a_ := (P.length : Int))
      (m_ := ((P.length + A.length : Nat) : Int)) (b_ := ((P.length + A.length + B.length : Nat) : Int)) rfl (qK (by omega) (by omega)) K s0 r0 g1 g2 g3 g4 (by omega) (fun t ht htl j hj hjl => by omega) (fun t ht htl j hj => by omega)
    rw [q5]
    -- the four parts
    obtain ⟨A1, A2, rfl, hA1l⟩ : ∃ A1 A2, A = A1 ++ A2 ∧ A1.length = q := ⟨A.take q, A.drop q, by simp, by rw [List.length_take]; omega⟩
    obtain ⟨B1, B2, rfl, hB1l⟩ : ∃ B1 B2, B = B1 ++ B2 ∧ B1.length = mid - P.length - q := ⟨B.take (mid - P.length - q), B.drop (mid - P.length - q), by simp, by rw [List.length_take]; omega⟩
    have h12 : ∀ x ∈ A1, ∀ y ∈ B2, x.often_ ≤ y.often_ := by
      intro x hx y hy
      obtain ⟨i, hi, rfl⟩ := yE hx
      obtain ⟨j, hj, rfl⟩ := yE hy
      have := q3 i (by omega) (by simp only [List.length_append]; omega) (B1.length + j) (by omega) (by simp only [List.length_append]; omega)
      rwa [yt _ _ hi, ug] at this
    have h21 : ∀ x ∈ B1, ∀ y ∈ A2, x.often_ < y.often_ := by
      intro x hx y hy
      obtain ⟨j, hj, rfl⟩ := yE hx
      obtain ⟨i, hi, rfl⟩ := yE hy
      have := q4 (A1.length + i) (by omega) (by simp only [List.length_append]; omega) j (by omega)
      rwa [yt _ _ hj, ug] at this
    simp only [List.length_append] at hl' hK' hd hA0 hB0 hA1 hB1 g2 g4 g5 g6 hmid
    unfold qa.j11
    rw [show qk (((mid + (P.length + (A1 ++ A2).length) : Nat) : Int) - ((P.length + q : Nat) : Int)) = ((P.length + A1.length + A2.length + B1.length : Nat) : Int) from by simp only [List.length_append]; rw [qK (by omega) (by omega)]; omega, qQ]
    -- turned round, or not
    have hrot : ∀ g : List PK → qW (List PK), (cond (decide (((P.length + q : Nat) : Int) < ((P.length + (A1 ++ A2).length : Nat) : Int)) && decide (((P.length + (A1 ++ A2).length : Nat) : Int) < ((P.length + A1.length + A2.length + B1.length : Nat) : Int)))
        ((qr.m K (P ++ (A1 ++ A2) ++ (B1 ++ B2) ++ Q) ((P.length + q : Nat) : Int) ((P.length + (A1 ++ A2).length : Nat) : Int) ((P.length + A1.length + A2.length + B1.length : Nat) : Int)).bind g)
        (g (P ++ (A1 ++ A2) ++ (B1 ++ B2) ++ Q))) = g (P ++ A1 ++ B1 ++ (A2 ++ B2 ++ Q)) := by
      intro g
      simp only [List.length_append]
      by_cases hA2 : A2.length = 0
      · have := List.length_eq_zero_iff.1 hA2
        subst this
        rw [show decide (((P.length + q : Nat) : Int) < ((P.length + (A1.length + ([] : List PK).length) : Nat) : Int)) = false from by simp only [List.length_nil, decide_eq_false_iff_not]; omega]
        simp
      · by_cases hB2 : B1.length = 0
        · have := List.length_eq_zero_iff.1 hB2
          subst this
          rw [show decide (((P.length + (A1.length + A2.length) : Nat) : Int) < ((P.length + A1.length + A2.length + ([] : List PK).length : Nat) : Int)) = false from by simp only [List.length_nil, decide_eq_false_iff_not]; omega]
          simp
        · rw [show decide (((P.length + q : Nat) : Int) < ((P.length + (A1.length + A2.length) : Nat) : Int)) = true from by simp only [decide_eq_true_eq]; omega, show decide (((P.length + (A1.length + A2.length) : Nat) : Int) < ((P.length + A1.length + A2.length + B1.length : Nat) : Int)) = true from by simp only [decide_eq_true_eq]; omega,
            Bool.and_self, cond_true]
          have := Ul K (P ++ A1) A2 B1 (B2 ++ Q) (by omega) (by omega) (by simp only [List.length_append]; omega) (by simp only [List.length_append]; omega) (a := ((P.length + q : Nat) : Int)) (m := ((P.length + (A1.length + A2.length) : Nat) : Int)) (b := ((P.length + A1.length + A2.length + B1.length : Nat) : Int))
            (by simp only [List.length_append]; omega) (by simp only [List.length_append]; omega) (by simp only [List.length_append])
          rw [show P ++ (A1 ++ A2) ++ (B1 ++ B2) ++ Q = P ++ A1 ++ A2 ++ B1 ++ (B2 ++ Q) from by simp, this, qW.bind_ok]
          simp
    rw [hrot]
    unfold qa.j12
    -- the first half
    have hfirst : ∃ M1, SS (A1 ++ B1) M1 ∧ ∀ g : List PK → qW (List PK), (cond (decide ((P.length : Int) < ((P.length + q : Nat) : Int)) && decide (((P.length + q : Nat) : Int) < (mid : Int)))
        ((qa.r K d (P ++ A1 ++ B1 ++ (A2 ++ B2 ++ Q)) (P.length : Int) ((P.length + q : Nat) : Int) (mid : Int)).bind g) (g (P ++ A1 ++ B1 ++ (A2 ++ B2 ++ Q)))) = g (P ++ M1 ++ (A2 ++ B2 ++ Q)) := by
      by_cases h0 : A1.length = 0
      · have := List.length_eq_zero_iff.1 h0
        subst this
        refine ⟨B1, by simpa using SS.refl hB.left, fun g => ?_⟩
        rw [show decide ((P.length : Int) < ((P.length + q : Nat) : Int)) = false from by simp only [decide_eq_false_iff_not]; simp only [List.length_nil] at hA1l; omega]
        simp
      · by_cases h1 : B1.length = 0
        · have := List.length_eq_zero_iff.1 h1
          subst this
          refine ⟨A1, by simpa using SS.refl hA.left, fun g => ?_⟩
          rw [show decide (((P.length + q : Nat) : Int) < (mid : Int)) = false from by simp only [decide_eq_false_iff_not]; simp only [List.length_nil] at hB1l; omega]
          simp
        · obtain ⟨M1, m1, m2⟩ := ih P A1 B1 (A2 ++ B2 ++ Q) hA.left hB.left (by omega) (by omega) (by omega) (by simp only [List.length_append]; omega) (by simp only [List.length_append]; omega)
          refine ⟨M1, m1, fun g => ?_⟩
          rw [show decide ((P.length : Int) < ((P.length + q : Nat) : Int)) = true from by simp only [decide_eq_true_eq]; omega, show decide (((P.length + q : Nat) : Int) < (mid : Int)) = true from by simp only [decide_eq_true_eq]; omega, Bool.and_self, cond_true,
            show ((P.length + q : Nat) : Int) = ((P.length + A1.length : Nat) : Int) from by rw [hA1l], show (mid : Int) = ((P.length + A1.length + B1.length : Nat) : Int) from by omega, m2]
          rfl
    obtain ⟨M1, hM1, hg1⟩ := hfirst
    rw [hg1]
    unfold qa.j13
    have hM1l : M1.length = A1.length + B1.length := by have := hM1.2.1.length_eq; simpa using this
    have hsecond : ∃ M2, SS (A2 ++ B2) M2 ∧ (cond (decide ((mid : Int) < ((P.length + A1.length + A2.length + B1.length : Nat) : Int)) && decide (((P.length + A1.length + A2.length + B1.length : Nat) : Int) < ((P.length + (A1 ++ A2).length + (B1 ++ B2).length : Nat) : Int)))
        ((qa.r K d (P ++ M1 ++ (A2 ++ B2 ++ Q)) (mid : Int) ((P.length + A1.length + A2.length + B1.length : Nat) : Int) ((P.length + (A1 ++ A2).length + (B1 ++ B2).length : Nat) : Int)).bind fun data => .ok data) (.ok (P ++ M1 ++ (A2 ++ B2 ++ Q)))) = .ok (P ++ (M1 ++ M2) ++ Q) := by
      simp only [List.length_append]
      by_cases h0 : A2.length = 0
      · have := List.length_eq_zero_iff.1 h0
        subst this
        refine ⟨B2, by simpa using SS.refl hB.right, ?_⟩
        rw [show decide ((mid : Int) < ((P.length + A1.length + ([] : List PK).length + B1.length : Nat) : Int)) = false from by simp only [List.length_nil, decide_eq_false_iff_not]; omega]
        simp
      · by_cases h1 : B2.length = 0
        · have := List.length_eq_zero_iff.1 h1
          subst this
          refine ⟨A2, by simpa using SS.refl hA.right, ?_⟩
          rw [show decide (((P.length + A1.length + A2.length + B1.length : Nat) : Int) < ((P.length + (A1.length + A2.length) + (B1.length + ([] : List PK).length) : Nat) : Int)) = false from by simp only [List.length_nil, decide_eq_false_iff_not]; omega]
          simp
        · obtain ⟨M2, m1, m2⟩ := ih (P ++ M1) A2 B2 Q hA.right hB.right (by omega) (by omega) (by omega) (by simp only [List.length_append]; omega) (by simp only [List.length_append]; omega)
          refine ⟨M2, m1, ?_⟩
          rw [show decide ((mid : Int) < ((P.length + A1.length + A2.length + B1.length : Nat) : Int)) = true from by simp only [decide_eq_true_eq]; omega, show decide (((P.length + A1.length + A2.length + B1.length : Nat) : Int) < ((P.length + (A1.length + A2.length) + (B1.length + B2.length) : Nat) : Int)) = true from by simp only [decide_eq_true_eq]; omega, Bool.and_self, cond_true]
          rw [show P ++ M1 ++ (A2 ++ B2 ++ Q) = P ++ M1 ++ A2 ++ B2 ++ Q from by simp, show (mid : Int) = ((P ++ M1).length : Int) from by simp only [List.length_append]; omega,
            show ((P.length + A1.length + A2.length + B1.length : Nat) : Int) = (((P ++ M1).length + A2.length : Nat) : Int) from by simp only [List.length_append]; omega,
            show ((P.length + (A1.length + A2.length) + (B1.length + B2.length) : Nat) : Int) = (((P ++ M1).length + A2.length + B2.length : Nat) : Int) from by simp only [List.length_append]; omega, m2]
          simp
    obtain ⟨M2, hM2, hg2⟩ := hsecond
    exact ⟨M1 ++ M2, SS.join hM1 hM2 hA hB h12 h21, hg2⟩
end Go.Pu

set_option maxRecDepth 100000
namespace Go.Pu
open Go Go.Sl Go.Mo
def SF (l l' : List PK) : Prop := l'.Perm l ∧ ∀ k : Int, l'.filter (fun x => x.often_ == k) = l.filter (fun x => x.often_ == k)
theorem SF.refl (l : List PK) : SF l l := ⟨List.Perm.refl _, fun _ => rfl⟩
theorem SF.trans {a b c : List PK} (h : SF a b) (h' : SF b c) : SF a c := ⟨h'.1.trans h.1, fun k => (h'.2 k).trans (h.2 k)⟩
theorem SF.append {a b c d : List PK} (h : SF a b) (h' : SF c d) : SF (a ++ c) (b ++ d) := ⟨h.1.append h'.1, fun k => by rw [List.filter_append, List.filter_append, h.2 k, h'.2 k]⟩
theorem SS.sf {a b : List PK} (h : SS a b) : SF a b := ⟨h.2.1, h.2.2⟩
theorem SS.of {a b : List PK} (h : SF a b) (h' : yC b) : SS a b := ⟨h', h.1, h.2⟩
theorem SF.len {a b : List PK} (h : SF a b) : b.length = a.length := h.1.length_eq
inductive Bk (bs : Nat) : List PK → Prop
  | last {X : List PK} (h : yC X) (hl : X.length ≤ bs) : Bk bs X
  | cons {X T : List PK} (h : yC X) (hl : X.length = bs) (ht : Bk bs T) : Bk bs (X ++ T)
theorem YD (K : Nat) (hK : (1099511627776 : Nat) > K) (N : Nat) (hN : N + 1 < K) : ∀ (k : Nat) (D T : List PK), D.length + T.length = N → T.length < 20 * k →
    ∃ T', SF T T' ∧ Bk 20 T' ∧ qe.l1 K (N : Int) k (D ++ T) (D.length : Int) ((D.length + 20 : Nat) : Int) = qe.l3 K (N : Int) K (D ++ T') 20 := by
  intro k
  induction k with
  | zero => intro D T _ h; omega
  | succ k ih =>
    intro D T h1 h2
    rw [qe.l1, qE]
    by_cases hc : D.length + 20 ≤ N
    · rw [if_pos (by omega)]
      obtain ⟨X, T2, rfl, hX⟩ : ∃ X T2, T = X ++ T2 ∧ X.length = 20 := ⟨T.take 20, T.drop 20, by simp, by rw [List.length_take]; omega⟩
      simp only [List.length_append] at h1 h2
      obtain ⟨X', x1, x2⟩ := Q7 K D X T2 hK (by simp only [List.length_append]; omega) (a := (D.length : Int)) (b := ((D.length + 20 : Nat) : Int)) rfl (by rw [hX])
      have hX' := x1.sf.len
      obtain ⟨T', t1, t2, t3⟩ := ih (D ++ X') T2 (by simp only [List.length_append]; omega) (by omega)
      refine ⟨X' ++ T', x1.sf.append t1, .cons x1.1 (by omega) t2, ?_⟩
      rw [← List.append_assoc, x2, qW.bind_ok, qQ, show qk (((D.length + 20 : Nat) : Int) + 20) = (((D ++ X').length + 20 : Nat) : Int) from by rw [qK (by omega) (by omega)]; simp only [List.length_append]; omega,
        show ((D.length + 20 : Nat) : Int) = ((D ++ X').length : Int) from by simp only [List.length_append]; omega, t3]
      simp
    · rw [if_neg (by omega)]
      unfold qe.j2
      obtain ⟨T', t1, t2⟩ := Q7 K D T [] hK (by simp only [List.length_append, List.length_nil]; omega) (a := (D.length : Int)) (b := (N : Int)) rfl (by omega)
      refine ⟨T', t1.sf, .last t1.1 (by have := t1.sf.len; omega), ?_⟩
      simp only [List.append_nil] at t2
      rw [t2]; rfl
theorem Bk.two {bs : Nat} {T : List PK} (h : Bk bs T) (hl : 2 * bs ≤ T.length) (hb : 0 < bs) : ∃ X Y T2, T = X ++ Y ++ T2 ∧ X.length = bs ∧ Y.length = bs ∧ yC X ∧ yC Y ∧ Bk bs T2 := by
  cases h with
  | last h hl2 => omega
  | @cons X T h hl2 ht =>
    simp only [List.length_append] at hl
    cases ht with
    | last h' hl' => exact ⟨X, T, [], by simp, hl2, by omega, h, h', .last List.Pairwise.nil (by simp)⟩
    | @cons Y T2 h' hl' ht' => exact ⟨X, Y, T2, by simp, hl2, hl', h, h', ht'⟩
theorem Bk.rest {bs : Nat} {T : List PK} (h : Bk bs T) (hl : T.length < 2 * bs) : yC T ∧ T.length ≤ bs ∨ ∃ X Y, T = X ++ Y ∧ X.length = bs ∧ yC X ∧ yC Y ∧ Y.length < bs := by
  cases h with
  | last h hl2 => exact .inl ⟨h, hl2⟩
  | @cons X T h hl2 ht =>
    simp only [List.length_append] at hl
    cases ht with
    | last h' hl' => exact .inr ⟨X, T, rfl, hl2, h, h', by omega⟩
    | @cons Y T2 h' hl' ht' =>
      simp only [List.length_append] at hl; omega
theorem Q4 (K : Nat) (P A B Q : List PK) (hA : yC A) (hB : yC B) (hA0 : 0 < A.length) (hB0 : 0 < B.length) (hl : (P ++ A ++ B ++ Q).length < 274877906944) (hK : (P ++ A ++ B ++ Q).length < K) {a m b : Int} (ha : a = (P.length : Int)) (hm : m = ((P.length + A.length : Nat) : Int)) (hb : b = ((P.length + A.length + B.length : Nat) : Int)) :
    ∃ M, SS (A ++ B) M ∧ qa.m K (P ++ A ++ B ++ Q) a m b = .ok (P ++ M ++ Q) := by
  subst ha; subst hm; subst hb
  exact Vd K K P A B Q hA hB hA0 hB0 (by simp only [List.length_append] at hK; omega) hl hK
theorem Z7 (K : Nat) (N : Nat) (hN : N + 1 < K) (hN2 : N < 137438953472) (g : List PK → Int → qW (List PK)) (bs : Nat) (hb : 0 < bs) (hb2 : bs < N) : ∀ (k : Nat) (D T : List PK), D.length + T.length = N → T.length < 2 * bs * k → Bk bs T →
    ∃ T', SF T T' ∧ Bk (2 * bs) T' ∧ qe.l4 K g (N : Int) (bs : Int) k (D ++ T) (D.length : Int) ((D.length + 2 * bs : Nat) : Int) = g (D ++ T') ((2 * bs : Nat) : Int) := by
  intro k
  induction k with
  | zero => intro D T _ h; omega
  | succ k ih =>
    intro D T h1 h2 hB
    rw [qe.l4, qE]
    by_cases hc : D.length + 2 * bs ≤ N
    · rw [if_pos (by omega)]
      obtain ⟨X, Y, T2, rfl, hX, hY, sX, sY, hT2⟩ := hB.two (by omega) hb
      simp only [List.length_append] at h1 h2
      obtain ⟨M, m1, m2⟩ := Q4 K D X Y T2 sX sY (by omega) (by omega) (by simp only [List.length_append]; omega) (by simp only [List.length_append]; omega) (a := (D.length : Int)) (m := qk ((D.length : Int) + (bs : Int))) (b := ((D.length + 2 * bs : Nat) : Int)) rfl
        (by rw [qK (by omega) (by omega)]; omega) (by omega)
      have hM := m1.sf.len
      simp only [List.length_append] at hM
      obtain ⟨T', t1, t2, t3⟩ := ih (D ++ M) T2 (by simp only [List.length_append]; omega) (by rw [Nat.mul_succ] at h2; omega) hT2
      refine ⟨M ++ T', m1.sf.append t1, .cons m1.1 (by omega) t2, ?_⟩
      rw [show D ++ (X ++ Y ++ T2) = D ++ X ++ Y ++ T2 from by simp, m2, qW.bind_ok, qQ, show qk (2 * (bs : Int)) = ((2 * bs : Nat) : Int) from by rw [qK (by omega) (by omega)]; omega,
        show qk (((D.length + 2 * bs : Nat) : Int) + ((2 * bs : Nat) : Int)) = (((D ++ M).length + 2 * bs : Nat) : Int) from by rw [qK (by omega) (by omega)]; simp only [List.length_append]; omega,
        show ((D.length + 2 * bs : Nat) : Int) = ((D ++ M).length : Int) from by simp only [List.length_append]; omega, t3]
      simp
    · rw [if_neg (by omega)]
      unfold qe.j5
      rw [show qk ((D.length : Int) + (bs : Int)) = ((D.length + bs : Nat) : Int) from by rw [qK (by omega) (by omega)]; rfl, qQ, qE, show qk ((bs : Int) * 2) = ((2 * bs : Nat) : Int) from by rw [qK (by omega) (by omega)]; omega]
      rcases hB.rest (by omega) with ⟨s1, s2⟩ | ⟨X, Y, rfl, hX, sX, sY, hY⟩
      · rw [if_neg (by omega), qQ]
        exact ⟨T, SF.refl _, .last s1 (by omega), rfl⟩
      · simp only [List.length_append] at h1 h2
        by_cases hY0 : Y.length = 0
        · rw [if_neg (by omega), qQ]
          have := List.length_eq_zero_iff.1 hY0
          subst this
          exact ⟨X ++ [], SF.refl _, .last (by simpa using sX) (by simp; omega), rfl⟩
        · rw [if_pos (by omega)]
          obtain ⟨M, m1, m2⟩ := Q4 K D X Y [] sX sY (by omega) (by omega) (by simp only [List.length_append, List.length_nil]; omega) (by simp only [List.length_append, List.length_nil]; omega) (a := (D.length : Int)) (m := ((D.length + bs : Nat) : Int)) (b := (N : Int)) rfl (by omega) (by omega)
          refine ⟨M, m1.sf, .last m1.1 (by have := m1.sf.len; simp only [List.length_append] at this; omega), ?_⟩
          simp only [List.append_nil] at m2
          rw [← List.append_assoc, m2, qW.bind_ok, qQ]
theorem Bk.srt {bs : Nat} {T : List PK} (h : Bk bs T) (hl : T.length ≤ bs) : yC T := by
  cases h with
  | last h _ => exact h
  | @cons X T h hl2 ht =>
    simp only [List.length_append] at hl
    have : T = [] := List.length_eq_zero_iff.1 (by omega)
    subst this
    simpa using h
theorem Jr (K : Nat) (N : Nat) (hN : N + 1 < K) (hN2 : N < 137438953472) : ∀ (k : Nat) (bs : Nat) (T : List PK), 0 < bs → T.length = N → N < bs + k → Bk bs T →
    ∃ T', SS T T' ∧ qe.l3 K (N : Int) (k + 1) T (bs : Int) = .ok T' := by
  intro k
  induction k with
  | zero =>
    intro bs T h0 h1 h2 hB
    refine ⟨T, SS.refl (hB.srt (by omega)), ?_⟩
    rw [qe.l3, qE, if_neg (by omega)]
  | succ k ih =>
    intro bs T h0 h1 h2 hB
    rw [qe.l3, qE]
    by_cases hc : bs < N
    · rw [if_pos (by omega), show qk (2 * (bs : Int)) = ((2 * bs : Nat) : Int) from by rw [qK (by omega) (by omega)]; omega, qQ]
      have hmul : T.length < 2 * bs * K := by
        have : 1 * K ≤ 2 * bs * K := Nat.mul_le_mul_right K (by omega)
        omega
      obtain ⟨T1, t1, t2, t3⟩ := Z7 K N hN hN2 (qe.l3 K (N : Int) (k + 1)) bs h0 hc K [] T (by simpa using h1) hmul hB
      obtain ⟨T', s1, s2⟩ := ih (2 * bs) T1 (by omega) (by rw [t1.len]; exact h1) (by omega) t2
      refine ⟨T', SS.of (t1.trans s1.sf) s1.1, ?_⟩
      rw [← s2]
      simpa using t3
    · rw [if_neg (by omega)]
      exact ⟨T, SS.refl (hB.srt (by omega)), rfl⟩
theorem Qf (K : Nat) (l : List PK) (hK : (1099511627776 : Nat) > K) (hl : l.length + 1 < K) (hl2 : l.length < 137438953472) :
    ∃ l', SS l l' ∧ qT.m K l = .ok l' := by
  obtain ⟨k, rfl⟩ : ∃ m, K = m + 1 := ⟨K - 1, by omega⟩
  unfold qT.m qe.m
  obtain ⟨T, t1, t2, t3⟩ := YD (k + 1) hK l.length hl (k + 1) [] l (by simp) (by omega)
  obtain ⟨l', s1, s2⟩ := Jr (k + 1) l.length hl hl2 k 20 T (by decide) t1.len (by omega) t2
  refine ⟨l', SS.of (t1.trans s1.sf) s1.1, ?_⟩
  have t3' : qe.l1 (k + 1) (l.length : Int) (k + 1) l 0 20 = qe.l3 (k + 1) (l.length : Int) (k + 1) T 20 := by simpa using t3
  rw [t3', show (20 : Int) = ((20 : Nat) : Int) from rfl, s2]
  rfl
theorem JE : @zn.m = @qT.m := by kernel_rfl
end Go.Pu

set_option maxRecDepth 100000
namespace Go.Pu
open Go Go.Sl Go.Mo
theorem U8 (K : Nat) (n : Nat) (h : n < 1099511627776) : zS.m K (n : Int) = .ok () := by
  unfold zS.m
  rw [qE, if_neg (by omega), qQ, show qk ((n : Int) - qk (0 - 0)) = (n : Int) from by rw [qK (x := 0 - 0) (by omega) (by omega), qK (by omega) (by omega)]; omega, qE]
  by_cases h0 : (n : Int) > 0
  · rw [if_pos h0, show (decide ((0 : Int) < (n : Int)) && room (Int.toNat (n : Int)) 8) = true from by rw [Bool.and_eq_true, decide_eq_true_eq]; exact ⟨h0, xF (by rw [Int.toNat_natCast]; omega)⟩, qv]
  · rw [if_neg h0]
theorem Kb (K : Nat) (n : Nat) (h : n < 1099511627776) : zu.m K (n : Int) = .ok () := by
  unfold zu.m
  rw [qE, if_neg (by omega), qQ, show qk ((n : Int) - qk (0 - 0)) = (n : Int) from by rw [qK (x := 0 - 0) (by omega) (by omega), qK (by omega) (by omega)]; omega, qE]
  by_cases h0 : (n : Int) > 0
  · rw [if_pos h0, show (decide ((0 : Int) < (n : Int)) && room (Int.toNat (n : Int)) 32) = true from by rw [Bool.and_eq_true, decide_eq_true_eq]; exact ⟨h0, xF (by rw [Int.toNat_natCast]; omega)⟩, qv]
  · rw [if_neg h0]
theorem VB (K : Nat) (a b : List Int) (hK : 3 ≤ K) (h : a.length + b.length < 1099511627776) : qH.m K [a, b] = .ok (a ++ b) := by
  obtain ⟨k, rfl⟩ : ∃ m, K = m + 3 := ⟨K - 3, by omega⟩
  have i0 : inb (0 : Int) ([a, b] : List (List Int)).length = true := rfl
  have i1 : inb (1 : Int) ([a, b] : List (List Int)).length = true := rfl
  have r0 : rd [a, b] (0 : Int) = a := rfl
  have r1 : rd [a, b] (1 : Int) = b := rfl
  have w1 : qk ((0 : Int) + 1) = 1 := rfl
  have w2 : qk ((1 : Int) + 1) = 2 := rfl
  have c0 : decide ((0 : Int) < (([a, b] : List (List Int)).length : Int)) = true := rfl
  have c1 : decide ((1 : Int) < (([a, b] : List (List Int)).length : Int)) = true := rfl
  have c2 : decide ((2 : Int) < (([a, b] : List (List Int)).length : Int)) = false := rfl
  have s1 : qk (0 + (a.length : Int)) = (a.length : Int) := by rw [qK (by omega) (by omega)]; omega
  have s2 : qk ((a.length : Int) + (b.length : Int)) = ((a.length + b.length : Nat) : Int) := by rw [qK (by omega) (by omega)]; omega
  unfold qH.m
  simp only [qH.l1, c0, c1, c2, cond_true, cond_false, i0, i1, qv, r0, r1, s1, s2, qQ, w1, w2]
  rw [qE, if_neg (by omega), qE, if_neg (by omega)]
  unfold qH.j2
  rw [U8 _ _ (by omega), qW.bind_ok]
  simp only [qH.l3, c0, c1, c2, cond_true, cond_false, i0, i1, qv, r0, r1, qQ, w1, w2]
  rw [xF (by simp only [List.length_nil]; omega), qv, xF (by simp only [List.nil_append]; omega), qv]
  simp
theorem Vs (K : Nat) (a b : List PK) (hK : 3 ≤ K) (h : a.length + b.length < 1099511627776) : qo.m K [a, b] = .ok (a ++ b) := by
  obtain ⟨k, rfl⟩ : ∃ m, K = m + 3 := ⟨K - 3, by omega⟩
  have i0 : inb (0 : Int) ([a, b] : List (List PK)).length = true := rfl
  have i1 : inb (1 : Int) ([a, b] : List (List PK)).length = true := rfl
  have r0 : rd [a, b] (0 : Int) = a := rfl
  have r1 : rd [a, b] (1 : Int) = b := rfl
  have w1 : qk ((0 : Int) + 1) = 1 := rfl
  have w2 : qk ((1 : Int) + 1) = 2 := rfl
  have c0 : decide ((0 : Int) < (([a, b] : List (List PK)).length : Int)) = true := rfl
  have c1 : decide ((1 : Int) < (([a, b] : List (List PK)).length : Int)) = true := rfl
  have c2 : decide ((2 : Int) < (([a, b] : List (List PK)).length : Int)) = false := rfl
  have s1 : qk (0 + (a.length : Int)) = (a.length : Int) := by rw [qK (by omega) (by omega)]; omega
  have s2 : qk ((a.length : Int) + (b.length : Int)) = ((a.length + b.length : Nat) : Int) := by rw [qK (by omega) (by omega)]; omega
  unfold qo.m
  simp only [qo.l1, c0, c1, c2, cond_true, cond_false, i0, i1, qv, r0, r1, s1, s2, qQ, w1, w2]
  rw [qE, if_neg (by omega), qE, if_neg (by omega)]
  unfold qo.j2
  rw [Kb _ _ (by omega), qW.bind_ok]
  simp only [qo.l3, c0, c1, c2, cond_true, cond_false, i0, i1, qv, r0, r1, qQ, w1, w2]
  rw [xF (by simp only [List.length_nil]; omega), qv, xF (by simp only [List.nil_append]; omega), qv]
  simp
def prs : List PK → List PK
  | x :: y :: r => ⟨x.often_ + y.often_, x.symbols_ ++ y.symbols_⟩ :: prs r
  | _ => []
theorem jU : ∀ l : List PK, (prs l).length = l.length / 2
  | [] => rfl
  | [_] => by simp [prs]
  | x :: y :: r => by simp only [prs, List.length_cons, jU r]; omega
theorem QY (K : Nat) (hK : 3 ≤ K) (N : Nat) (hN : N < 1073741824) : ∀ (R D O : List PK) (k : Nat), (D ++ R).length = N → 2 * O.length ≤ D.length → R.length < 2 * k → (∀ p ∈ R, 0 ≤ p.often_ ∧ p.often_ < 4611686018427387904 ∧ p.symbols_.length < 1073741824) →
    z9.l1 K (D ++ R) k O (D.length : Int) = .ok (O ++ prs R)
  | [], D, O, k, h1, h3, h2, hb => by
    obtain ⟨k, rfl⟩ : ∃ m, k = m + 1 := ⟨k - 1, by simp at h2; omega⟩
    simp only [List.length_append, List.length_nil] at h1
    rw [z9.l1, qK (by omega) (by omega), qE, if_neg (by simp only [List.append_nil]; omega)]
    simp [prs]
  | [x], D, O, k, h1, h3, h2, hb => by
    obtain ⟨k, rfl⟩ : ∃ m, k = m + 1 := ⟨k - 1, by simp at h2; omega⟩
    simp only [List.length_append, List.length_cons, List.length_nil] at h1
    rw [z9.l1, qK (by omega) (by omega), qE, if_neg (by simp only [List.length_append, List.length_cons, List.length_nil]; omega)]
    simp [prs]
  | x :: y :: R, D, O, k, h1, h3, h2, hb => by
    obtain ⟨k, rfl⟩ : ∃ m, k = m + 1 := ⟨k - 1, by simp at h2; omega⟩
    have h1' := h1
    simp only [List.length_append, List.length_cons] at h1 h2
    have hx := hb x (by simp)
    have hy := hb y (by simp)
    have e1 : qk ((D.length : Int) + 1) = ((D ++ [x]).length : Int) := by rw [qK (by omega) (by omega)]; simp
    have d1 : D ++ x :: y :: R = (D ++ [x]) ++ y :: R := by simp
    have ry : rd (D ++ x :: y :: R) ((D ++ [x]).length : Int) = y := by rw [d1]; exact x8 _ _ _ rfl
    have by_ : inb ((D ++ [x]).length : Int) (D ++ x :: y :: R).length = true := by rw [d1]; exact yd _ _ _ rfl
    rw [z9.l1, e1, qE, if_pos (by simp only [List.length_append, List.length_cons, List.length_nil]; omega), yd _ _ _ rfl, qv, by_, qv, x8 _ _ _ rfl, ry, VB K _ _ hK (by omega), qW.bind_ok,
      xF (by simp only [List.length_cons, List.length_nil]; omega), qv, qQ, qK (x := x.often_ + y.often_) (by omega) (by omega), qQ,
      show qk ((D.length : Int) + 2) = ((D ++ [x, y]).length : Int) from by rw [qK (by omega) (by omega)]; simp]
    have := QY K hK N hN R (D ++ [x, y]) (O ++ [⟨x.often_ + y.often_, x.symbols_ ++ y.symbols_⟩]) k (by simp only [List.length_append, List.length_cons, List.length_nil]; omega)
      (by simp only [List.length_append, List.length_cons, List.length_nil]; omega) (by omega) (fun p hp => hb p (by simp [hp]))
    rw [show D ++ x :: y :: R = D ++ [x, y] ++ R from by simp, this]
    simp [prs]
theorem Y3 (K : Nat) (R : List PK) (hK : 3 ≤ K) (hl : R.length < 1073741824) (hl2 : R.length < 2 * K) (hb : ∀ p ∈ R, 0 ≤ p.often_ ∧ p.often_ < 4611686018427387904 ∧ p.symbols_.length < 1073741824) : z9.m K R = .ok (prs R) := by
  have := QY K hK R.length hl R [] [] K (by simp) (by simp) hl2 hb
  simpa [z9.m] using this
theorem XN (K : Nat) (a b : List PK) (hK : 3 ≤ K) (hK2 : (1099511627776 : Nat) > K) (hl : a.length + b.length + 1 < K) (hl2 : a.length + b.length < 137438953472) : ∃ R, SS (a ++ b) R ∧ xR.m K a b = .ok R := by
  obtain ⟨R, h1, h2⟩ := Qf K (a ++ b) hK2 (by simp only [List.length_append]; omega) (by simp only [List.length_append]; omega)
  refine ⟨R, h1, ?_⟩
  unfold xR.m
  rw [Vs K a b hK (by omega), qW.bind_ok, JE, h2]
  rfl
theorem Yu : ∀ {l : List PK}, yC l → yC (prs l)
  | [], _ => List.Pairwise.nil
  | [_], _ => by simp [prs, yC]
  | x :: y :: r, h => by
    have h1 := List.pairwise_cons.1 h
    have h2 := List.pairwise_cons.1 h1.2
    refine List.pairwise_cons.2 ⟨fun p hp => ?_, Yu (l := r) h2.2⟩
    have : ∀ {r : List PK}, ∀ p ∈ prs r, ∃ u ∈ r, ∃ v ∈ r, p.often_ = u.often_ + v.often_ := by
      intro r
      induction r using prs.induct with
      | case1 u v r ih =>
        intro p hp
        simp only [prs, List.mem_cons] at hp
        rcases hp with rfl | hp
        · exact ⟨u, by simp, v, by simp, rfl⟩
        · obtain ⟨a, ha, b, hb, h⟩ := ih p hp
          exact ⟨a, by simp [ha], b, by simp [hb], h⟩
      | case2 r hr =>
        intro p hp
        unfold prs at hp
        split at hp
        · rename_i a b c; exact (hr a b c rfl).elim
        · cases hp
    obtain ⟨u, hu, v, hv, he⟩ := this p hp
    have g1 := h1.1 u (by simp [hu])
    have g2 := h2.1 v hv
    show x.often_ + y.often_ ≤ p.often_
    omega
theorem u3 : ∀ {a b : List PK}, yC a → yC b → (∀ k : Int, a.filter (fun x => x.often_ == k) = b.filter (fun x => x.often_ == k)) → a = b
  | [], [], _, _, _ => rfl
  | [], y :: b, _, _, h => by have := h y.often_; simp at this
  | x :: a, [], _, _, h => by have := h x.often_; simp at this
  | x :: a, y :: b, ha, hb, h => by
    have hx := List.pairwise_cons.1 ha
    have hy := List.pairwise_cons.1 hb
    have hle : ∀ {x y : PK} {a b : List PK}, (∀ z ∈ a, x.often_ ≤ z.often_) → (x :: a).filter (fun z => z.often_ == y.often_) = (y :: b).filter (fun z => z.often_ == y.often_) → x.often_ ≤ y.often_ := by
      intro x y a b hx h
      have hm : y ∈ (x :: a).filter (fun z => z.often_ == y.often_) := by rw [h]; simp
      rw [List.mem_filter] at hm
      rcases List.mem_cons.1 hm.1 with h1 | h1
      · rw [h1]; exact Int.le_refl _
      · exact hx y h1
    have e : x.often_ = y.often_ := Int.le_antisymm (hle hx.1 (h y.often_)) (hle hy.1 (h x.often_).symm)
    have h0 := h x.often_
    simp only [List.filter_cons, beq_self_eq_true, if_true, ← e] at h0
    simp only [List.cons.injEq] at h0
    rw [h0.1, u3 hx.2 hy.2 fun k => ?_]
    have hk := h k
    simp only [List.filter_cons, e] at hk
    by_cases hkk : (y.often_ == k) = true
    · simp only [hkk, if_true, List.cons.injEq] at hk; exact hk.2
    · simp only [hkk] at hk; simpa using hk
theorem jt {α : Type} (p q : α → Bool) (l : List α) : (l.filter p).filter q = (l.filter q).filter p := by
  simp only [List.filter_filter]
  congr 1; funext x; rw [Bool.and_comm]
theorem SS.kind {a b R : List PK} (h : SS (a ++ b) R) (p : PK → Bool) (ha : yC a) (h1 : ∀ x ∈ a, p x = true) (h2 : ∀ x ∈ b, p x = false) : R.filter p = a := by
  refine u3 (h.1.sublist (List.filter_sublist)) ha fun k => ?_
  have e : b.filter p = [] := List.filter_eq_nil_iff.2 (fun x hx => by simp [h2 x hx])
  rw [jt, h.2.2 k, jt, List.filter_append, List.filter_eq_self.2 h1, e, List.append_nil]
theorem SS.kind2 {a b R : List PK} (h : SS (a ++ b) R) (p : PK → Bool) (hb : yC b) (h1 : ∀ x ∈ a, p x = false) (h2 : ∀ x ∈ b, p x = true) : R.filter p = b := by
  refine u3 (h.1.sublist (List.filter_sublist)) hb fun k => ?_
  have e : a.filter p = [] := List.filter_eq_nil_iff.2 (fun x hx => by simp [h1 x hx])
  rw [jt, h.2.2 k, jt, List.filter_append, List.filter_eq_self.2 h2, e, List.nil_append]
end Go.Pu

set_option maxRecDepth 100000
namespace Go.Pu
open Go Go.Sl Go.Mo
def xQ (p : PK) : Bool := p.symbols_.length == 1
def zM (l : List PK) : List Int := l.flatMap (·.symbols_)
structure Rows (X : List PK) (R : Nat → List PK) : Prop where
  zero : R 0 = X
  succ : ∀ t, SS (X ++ prs (R t)) (R (t + 1))
  one : ∀ p ∈ X, p.symbols_.length = 1
  pos : ∀ p ∈ X, 0 < p.often_
  srt : yC X
theorem Zy : ∀ {r : List PK} {p : PK}, p ∈ prs r → ∃ u ∈ r, ∃ v ∈ r, p.often_ = u.often_ + v.often_ ∧ p.symbols_ = u.symbols_ ++ v.symbols_ := by
  intro r
  induction r using prs.induct with
  | case1 u v r ih =>
    intro p hp
    simp only [prs, List.mem_cons] at hp
    rcases hp with rfl | hp
    · exact ⟨u, by simp, v, by simp, rfl, rfl⟩
    · obtain ⟨a, ha, b, hb, h⟩ := ih hp
      exact ⟨a, by simp [ha], b, by simp [hb], h⟩
  | case2 r hr =>
    intro p hp
    unfold prs at hp
    split at hp
    · rename_i a b c; exact (hr a b c rfl).elim
    · cases hp
theorem Yt : ∀ {T : List PK} (U : List PK), T.length % 2 = 0 → prs (T ++ U) = prs T ++ prs U
  | [], U, _ => by simp [prs]
  | [x], U, h => by simp at h
  | x :: y :: T, U, h => by
    simp only [List.cons_append, prs]
    rw [Yt U (by simp only [List.length_cons] at h; omega)]
theorem Qm (l : List PK) (b : Nat) : (prs l).take b = prs (l.take (2 * b)) := by
  induction l using prs.induct generalizing b with
  | case1 u v r ih =>
    cases b with
    | zero => simp [prs]
    | succ b => rw [show 2 * (b + 1) = 2 * b + 1 + 1 from by omega]; simp only [prs, List.take_succ_cons, ih]
  | case2 r hr =>
    have h1 : prs r = [] := by
      unfold prs
      split
      · rename_i a b c; exact (hr a b c rfl).elim
      · rfl
    have h2 : prs (r.take (2 * b)) = [] := by
      have := jU (r.take (2 * b))
      have h3 := jU r
      rw [h1] at h3
      simp only [List.length_nil] at h3
      have h4 : (r.take (2 * b)).length ≤ r.length := (List.take_sublist _ _).length_le
      exact List.length_eq_zero_iff.1 (by omega)
    rw [h1, h2]; simp
theorem ur : ∀ {l : List PK}, l.length % 2 = 0 → zM (prs l) = zM l
  | [], _ => rfl
  | [x], h => by simp at h
  | x :: y :: r, h => by
    have := ur (l := r) (by simp only [List.length_cons] at h; omega)
    simp only [zM] at this
    simp only [zM, prs, List.flatMap_cons, this, List.append_assoc]
section
variable {X : List PK} {R : Nat → List PK} (H : Rows X R)
include H
theorem Rows.sorted : ∀ t, yC (R t)
  | 0 => by rw [H.zero]; exact H.srt
  | t + 1 => (H.succ t).1
theorem Rows.good : ∀ t, ∀ p ∈ R t, 0 < p.often_ ∧ 1 ≤ p.symbols_.length
  | 0, p, hp => by rw [H.zero] at hp; exact ⟨H.pos p hp, by rw [H.one p hp]; exact Nat.le_refl _⟩
  | t + 1, p, hp => by
    rcases List.mem_append.1 ((H.succ t).2.1.mem_iff.1 hp) with h | h
    · exact ⟨H.pos p h, by rw [H.one p h]; exact Nat.le_refl _⟩
    · obtain ⟨u, hu, v, hv, h1, h2⟩ := Zy h
      have := Rows.good t u hu
      have := Rows.good t v hv
      exact ⟨by omega, by rw [h2, List.length_append]; omega⟩
theorem Rows.two (t : Nat) : ∀ p ∈ prs (R t), xQ p = false := by
  intro p hp
  obtain ⟨u, hu, v, hv, _, h2⟩ := Zy hp
  have := (H.good t u hu).2
  have := (H.good t v hv).2
  simp only [xQ, h2, List.length_append, beq_eq_false_iff_ne]; omega
theorem Rows.ones : ∀ p ∈ X, xQ p = true := fun p hp => by simp [xQ, H.one p hp]
theorem Rows.singles (t : Nat) : (R (t + 1)).filter xQ = X := (H.succ t).kind xQ H.srt H.ones (H.two t)
theorem Rows.pairs (t : Nat) : (R (t + 1)).filter (fun p => !xQ p) = prs (R t) :=
  (H.succ t).kind2 (fun p => !xQ p) (Yu (H.sorted t)) (fun p hp => by simp [H.ones p hp]) (fun p hp => by simp [H.two t p hp])
theorem Rows.len (t : Nat) : (R (t + 1)).length = X.length + (R t).length / 2 := by
  rw [(H.succ t).2.1.length_eq, List.length_append, jU]
end
theorem vl {α : Type} (p : α → Bool) (l : List α) (m : Nat) : (l.take m).filter p = (l.filter p).take ((l.take m).filter p).length ∧ (l.drop m).filter p = (l.filter p).drop ((l.take m).filter p).length := by
  have h : l.filter p = (l.take m).filter p ++ (l.drop m).filter p := by rw [← List.filter_append, List.take_append_drop]
  constructor
  · conv => rhs; rw [h]
    simp
  · conv => rhs; rw [h]
    simp
def XO (R : Nat → List PK) (t m : Nat) : Nat := (((R t).take m).filter xQ).length
def jV (R : Nat → List PK) (t m : Nat) : Nat := (((R t).take m).filter fun p => !xQ p).length
def Zu (R : Nat → List PK) : Nat → Nat → List Nat
  | 0, m => [m]
  | t + 1, m => XO R (t + 1) m :: Zu R t (2 * jV R (t + 1) m)
theorem u0 (R : Nat → List PK) : ∀ t m, (Zu R t m).length = t + 1
  | 0, _ => rfl
  | t + 1, m => by simp [Zu, u0 R t]
theorem XX {α : Type} (p : α → Bool) (l : List α) : (l.filter p).length + (l.filter fun x => !p x).length = l.length := by
  have := (List.filter_append_perm p l).length_eq
  simpa using this
theorem UR (R : Nat → List PK) (t m : Nat) (h : m ≤ (R t).length) : XO R t m + jV R t m = m := by
  have := XX xQ ((R t).take m)
  rw [List.length_take, Nat.min_eq_left h] at this
  exact this
section
variable {X : List PK} {R : Nat → List PK} (H : Rows X R)
include H
theorem Rows.takeOne (t m : Nat) : ((R (t + 1)).take m).filter xQ = X.take (XO R (t + 1) m) := by
  have := (vl xQ (R (t + 1)) m).1
  rw [H.singles t] at this
  exact this
theorem Rows.takeTwo (t m : Nat) : ((R (t + 1)).take m).filter (fun p => !xQ p) = (prs (R t)).take (jV R (t + 1) m) := by
  have := (vl (fun p => !xQ p) (R (t + 1)) m).1
  rw [H.pairs t] at this
  exact this
theorem Rows.twoLe (t m : Nat) : 2 * jV R (t + 1) m ≤ (R t).length := by
  have h := congrArg List.length (H.pairs t)
  have h2 : jV R (t + 1) m ≤ ((R (t + 1)).filter fun p => !xQ p).length := by
    have := (List.take_sublist m (R (t + 1))).filter (fun p => !xQ p)
    exact this.length_le
  rw [h, jU] at h2
  omega
theorem Rows.oneLe (t m : Nat) : XO R (t + 1) m ≤ X.length := by
  have h := congrArg List.length (H.singles t)
  have := ((List.take_sublist m (R (t + 1))).filter xQ).length_le
  rw [h] at this
  exact this
theorem Rows.count (s : Int) : ∀ t m, m ≤ (R t).length → (zM ((R t).take m)).count s = ((Zu R t m).map fun a => (zM (X.take a)).count s).sum
  | 0, m, h => by simp [Zu, H.zero]
  | t + 1, m, h => by
    have hp := (List.filter_append_perm xQ ((R (t + 1)).take m)).flatMap_right (·.symbols_)
    have h1 := hp.count_eq s
    rw [List.flatMap_append, List.count_append, H.takeOne, H.takeTwo, Qm] at h1
    have h2 := H.twoLe t m
    have h3 : ((R t).take (2 * jV R (t + 1) m)).length = 2 * jV R (t + 1) m := by rw [List.length_take, Nat.min_eq_left h2]
    have h4 := ur (l := (R t).take (2 * jV R (t + 1) m)) (by rw [h3]; omega)
    have h5 := Rows.count s t (2 * jV R (t + 1) m) h2
    simp only [zM] at h4 h5 ⊢
    rw [← h1, h4, h5]
    simp [Zu]
theorem Rows.mono (t m : Nat) : ∀ a, (Zu R t (2 * jV R (t + 1) m)).head? = some a → a ≤ XO R (t + 1) m := by
  intro a ha
  obtain ⟨b, hb⟩ : ∃ b, jV R (t + 1) m = b := ⟨_, rfl⟩
  have hbl := H.twoLe t m
  have hTwo := H.takeTwo t m
  have hOne := H.takeOne t m
  rw [hb] at ha hbl hTwo
  -- the single ones among the first 2b
  have hal : ((R t).take (2 * b)).filter xQ = X.take a ∧ a ≤ X.length := by
    cases t with
    | zero =>
      simp only [Zu, List.head?_cons, Option.some.injEq] at ha
      subst ha
      rw [H.zero] at hbl ⊢
      exact ⟨List.filter_eq_self.2 fun p hp => H.ones p (List.mem_of_mem_take hp), hbl⟩
    | succ t =>
      simp only [Zu, List.head?_cons, Option.some.injEq] at ha
      subst ha
      exact ⟨H.takeOne t (2 * b), H.oneLe t (2 * b)⟩
  refine Nat.le_of_not_lt fun hlt => ?_
  obtain ⟨c, hc⟩ : ∃ c, XO R (t + 1) m = c := ⟨_, rfl⟩
  rw [hc] at hlt hOne
  have hcx : c < X.length := by omega
  -- the first 2b: the last two
  have hb0 : 0 < b := by
    refine Nat.pos_of_ne_zero fun h0 => ?_
    subst h0
    have := congrArg List.length hal.1
    simp at this; omega
  obtain ⟨T, u, v, hT, hTl⟩ : ∃ T u v, (R t).take (2 * b) = T ++ [u, v] ∧ T.length = 2 * (b - 1) := by
    have hl : ((R t).take (2 * b)).length = 2 * b := by rw [List.length_take, Nat.min_eq_left hbl]
    rcases jy ((R t).take (2 * b)) with h | ⟨T1, v, h⟩
    · rw [h] at hl; simp at hl; omega
    · rcases jy T1 with h' | ⟨T, u, h'⟩
      · rw [h, h'] at hl; simp at hl; omega
      · refine ⟨T, u, v, by rw [h, h']; simp, ?_⟩
        rw [h, h'] at hl; simp only [List.length_append, List.length_cons, List.length_nil] at hl; omega
  have hq : (⟨u.often_ + v.often_, u.symbols_ ++ v.symbols_⟩ : PK) ∈ (R (t + 1)).take m := by
    have : (⟨u.often_ + v.often_, u.symbols_ ++ v.symbols_⟩ : PK) ∈ ((R (t + 1)).take m).filter (fun p => !xQ p) := by
      rw [hTwo, Qm, hT, Yt _ (by omega)]
      simp [prs]
    exact (List.mem_filter.1 this).1
  have hx : X[c] ∈ (R (t + 1)).drop m := by
    have h1 := (vl xQ (R (t + 1)) m).2
    rw [H.singles t, show (((R (t + 1)).take m).filter xQ).length = c from hc] at h1
    have : X[c] ∈ ((R (t + 1)).drop m).filter xQ := by
      rw [h1, List.drop_eq_getElem_cons hcx]; exact List.mem_cons_self ..
    exact (List.mem_filter.1 this).1
  have hs := H.sorted (t + 1)
  rw [← List.take_append_drop m (R (t + 1))] at hs
  have g1 := hs.cross _ hq _ hx
  have hx2 : X[c] ∈ T ++ [u, v] := by
    rw [← hT]
    have : X[c] ∈ ((R t).take (2 * b)).filter xQ := by
      rw [hal.1, List.mem_take_iff_getElem]
      exact ⟨c, by omega, rfl⟩
    exact (List.mem_filter.1 this).1
  have hs2 := (H.sorted t).sublist (List.take_sublist (2 * b) (R t))
  rw [hT] at hs2
  have hu : 0 < u.often_ := (H.good t u (List.mem_of_mem_take (by rw [hT]; simp : u ∈ (R t).take (2 * b)))).1
  have g2 : X[c].often_ ≤ v.often_ := by
    rcases List.mem_append.1 hx2 with h | h
    · exact yC.cross (show yC (T ++ [u, v]) from hs2) _ h v (by simp)
    · simp at h
      rcases h with h | h
      · rw [h]; exact yC.cross (A := [u]) (B := [v]) (yC.right (A := T) hs2) u (by simp) v (by simp)
      · rw [h]; exact Int.le_refl _
  simp only at g1
  omega
theorem Rows.levle : ∀ t m, m ≤ (R t).length → ∀ a ∈ Zu R t m, a ≤ X.length
  | 0, m, h, a, ha => by simp [Zu] at ha; subst ha; rw [H.zero] at h; exact h
  | t + 1, m, h, a, ha => by
    rcases List.mem_cons.1 ha with rfl | ha
    · exact H.oneLe t m
    · exact Rows.levle t _ (H.twoLe t m) a ha
theorem Rows.down : ∀ t m, (Zu R t m).Pairwise (fun a b => b ≤ a)
  | 0, m => by simp [Zu]
  | t + 1, m => by
    have ih := Rows.down t (2 * jV R (t + 1) m)
    refine List.pairwise_cons.2 ⟨fun b hb => ?_, ih⟩
    have hm := H.mono t m
    cases hl : Zu R t (2 * jV R (t + 1) m) with
    | nil => rw [hl] at hb; cases hb
    | cons c r =>
      rw [hl] at hb ih hm
      have hc := hm c rfl
      rcases List.mem_cons.1 hb with rfl | hb
      · exact hc
      · exact Nat.le_trans ((List.pairwise_cons.1 ih).1 b hb) hc
end
def XS : List Nat → Nat
  | [] => 0
  | a :: r => a * 2 ^ r.length + XS r
theorem ZU {X : List PK} {R : Nat → List PK} (H : Rows X R) : ∀ t m, m ≤ (R t).length → XS (Zu R t m) = m * 2 ^ t
  | 0, m, _ => by simp [Zu, XS]
  | t + 1, m, h => by
    simp only [Zu, XS, u0, ZU H t _ (H.twoLe t m)]
    have := UR R (t + 1) m h
    conv => rhs; rw [← this]
    rw [Nat.pow_succ, Nat.add_mul]
    have : 2 * jV R (t + 1) m * 2 ^ t = jV R (t + 1) m * (2 ^ t * 2) := by rw [Nat.mul_comm (2 ^ t) 2, ← Nat.mul_assoc, Nat.mul_comm 2]
    omega
def vh (as : List Nat) (i : Nat) : Nat := (as.filter fun a => decide (i < a)).length
theorem Uh (as : List Nat) (i : Nat) : vh as i ≤ as.length := List.length_filter_le ..
theorem J2 (n : Nat) : ∀ as : List Nat, as.Pairwise (fun a b => b ≤ a) → (∀ a ∈ as, a ≤ n) → ((List.range n).map fun i => 2 ^ (as.length - vh as i)).sum + XS as = n * 2 ^ as.length
  | [], _, _ => by
    have : ∀ m : Nat, ((List.range m).map fun _ => 1).sum = m := by
      intro m
      induction m with
      | zero => rfl
      | succ m ih => rw [List.range_succ, List.map_append, List.sum_append, ih]; simp
    have h2 := this n
    simp only [vh, XS, List.filter_nil, List.length_nil, Nat.sub_self, Nat.pow_zero, Nat.add_zero, Nat.mul_one]
    exact h2
  | a :: r, hp, hn => by
    have hp' := List.pairwise_cons.1 hp
    have ih := J2 n r hp'.2 (fun b hb => hn b (by simp [hb]))
    have ha := hn a (by simp)
    have step : ((List.range n).map fun i => 2 ^ ((a :: r).length - vh (a :: r) i)).sum = ((List.range n).map fun i => 2 ^ (r.length - vh r i)).sum + (n - a) * 2 ^ r.length := by
      have hterm : ∀ i, 2 ^ ((a :: r).length - vh (a :: r) i) = 2 ^ (r.length - vh r i) + (if i < a then 0 else 2 ^ r.length) := by
        intro i
        by_cases h : i < a
        · rw [if_pos h, Nat.add_zero]
          congr 1
          have : vh (a :: r) i = vh r i + 1 := by simp [vh, h]
          rw [this, List.length_cons]; omega
        · rw [if_neg h]
          have h0 : vh r i = 0 := by
            unfold vh
            rw [List.length_eq_zero_iff, List.filter_eq_nil_iff]
            intro b hb
            have := hp'.1 b hb
            simp; omega
          have h1 : vh (a :: r) i = 0 := by simp [vh, h]; intro b hb; have := hp'.1 b hb; omega
          rw [h0, h1, List.length_cons, Nat.sub_zero, Nat.sub_zero, Nat.pow_succ]; omega
      have hsum : ∀ m, m ≤ n → ((List.range m).map fun i => 2 ^ ((a :: r).length - vh (a :: r) i)).sum = ((List.range m).map fun i => 2 ^ (r.length - vh r i)).sum + (m - a) * 2 ^ r.length := by
        intro m
        induction m with
        | zero => intro _; simp
        | succ m ih =>
          intro hm
          rw [List.range_succ, List.map_append, List.map_append, List.sum_append, List.sum_append, ih (by omega)]
          simp only [List.map_cons, List.map_nil, List.sum_cons, List.sum_nil, Nat.add_zero, hterm m]
          by_cases h : m < a
          · rw [if_pos h, show m + 1 - a = 0 from by omega, show m - a = 0 from by omega]; omega
          · rw [if_neg h, show m + 1 - a = (m - a) + 1 from by omega, Nat.add_mul]; omega
      exact hsum n (Nat.le_refl _)
    rw [step]
    simp only [XS, List.length_cons]
    have : (n - a) * 2 ^ r.length + a * 2 ^ r.length = n * 2 ^ r.length := by rw [← Nat.add_mul]; congr 1; omega
    have e2 : n * 2 ^ (r.length + 1) = n * 2 ^ r.length + n * 2 ^ r.length := by rw [Nat.pow_succ, ← Nat.mul_assoc, Nat.mul_two]
    rw [e2]
    have e3 : n * 2 ^ r.length = n * 2 ^ r.length := rfl
    omega
end Go.Pu

set_option maxRecDepth 100000
namespace Go.Pu
open Go Go.Sl Go.Mo
def vc : List Int → Nat → List PK
  | [], _ => []
  | n :: r, i => if 0 < n then ⟨n, [(i : Int)]⟩ :: vc r (i + 1) else vc r (i + 1)
def Y4 (n : Int) : Bool := decide (n < 0) || decide (n > 1099511627776)
def Kh (often : List Int) (most : Int) : Prop := 1 ≤ most ∧ most ≤ 15 ∧ often.length ≤ 320 ∧ (∀ n ∈ often, 0 ≤ n ∧ n ≤ 1099511627776) ∧ (vc often 0).length ≤ 2 ^ most.toNat
instance (often : List Int) (most : Int) : Decidable (Kh often most) := by unfold Kh; exact inferInstance
def yR (N : Nat) (D : List Int) : List Int := (List.range N).map fun (j : Nat) => ((D.count (j : Int) : Nat) : Int)
theorem yn (N : Nat) (D : List Int) : (yR N D).length = N := by simp [yR]
theorem v8 (N : Nat) : yR N [] = List.replicate N 0 := by
  unfold yR
  apply List.ext_getElem <;> simp
theorem uQ {N : Nat} {D : List Int} {j : Nat} (h : j < N) : rd (yR N D) (j : Int) = ((D.count (j : Int) : Nat) : Int) := by
  simp [rd, yR, List.getD, h]
theorem Q6 {N : Nat} {D : List Int} {j : Nat} (h : j < N) : (yR N D).set j (((D.count (j : Int) + 1 : Nat)) : Int) = yR N (D ++ [(j : Int)]) := by
  unfold yR
  apply List.ext_getElem
  · simp
  · intro i h1 h2
    simp only [List.length_set, List.length_map, List.length_range] at h1
    rw [List.getElem_set]
    by_cases hij : j = i
    · subst hij; simp
    · rw [if_neg hij]
      have : ¬ ((j : Int) = (i : Int)) := by omega
      simp [List.count_append, List.count_cons, this]
theorem UQ (K : Nat) (g : List Int → Int → qW (List Int × Int)) (zs : List PK) (v N : Nat) (hv : v < 1099511627776) (D : List Int) : ∀ (k : Nat) (S T : List Int), (rd zs (v : Int)).symbols_ = S ++ T → T.length < k → (S ++ T).length < 1099511627776 → (D ++ S ++ T).length < 1099511627776 → (∀ s ∈ T, ∃ j : Nat, j < N ∧ s = (j : Int)) →
    qt.l8 K g zs (v : Int) k (yR N (D ++ S)) (S.length : Int) = g (yR N (D ++ S ++ T)) ((v + 1 : Nat) : Int) := by
  intro k
  induction k with
  | zero => intro S T _ h; omega
  | succ k ih =>
    intro S T h1 h2 h3 h5 h4
    rw [qt.l8, h1, qE]
    cases T with
    | nil => rw [if_neg (by simp), qK (by omega) (by omega)]; simp
    | cons s T =>
      obtain ⟨j, hj, rfl⟩ := h4 s (by simp)
      have hc : (D ++ S).count (j : Int) ≤ (D ++ S).length := List.count_le_length
      simp only [List.length_append, List.length_cons] at h2 h3 h5 hc
      rw [if_pos (by simp only [List.length_append, List.length_cons]; omega), yd _ _ _ rfl, qv, x8 _ _ _ rfl, qQ, yn, QP hj, qv, uQ hj, qK (by omega) (by omega), Int.toNat_natCast, qQ,
        show ((((D ++ S).count (j : Int) : Nat) : Int) + 1) = (((D ++ S).count (j : Int) + 1 : Nat) : Int) from rfl, Q6 hj, show qk ((S.length : Int) + 1) = ((S ++ [(j : Int)]).length : Int) from by rw [qK (by omega) (by omega)]; simp]
      have := ih (S ++ [(j : Int)]) T (by rw [h1]; simp) (by omega) (by simp only [List.length_append, List.length_cons, List.length_nil]; omega) (by simp only [List.length_append, List.length_cons, List.length_nil]; omega) (fun s hs => h4 s (by simp [hs]))
      simp only [← List.append_assoc] at this
      rw [this]
      simp
theorem U2 (K : Nat) (N M : Nat) (hM : M < 1099511627776) (hMK : M < K) : ∀ (k : Nat) (A B : List PK), B.length < k → (A ++ B).length < 1099511627776 → (zM (A ++ B)).length ≤ M → (∀ s ∈ zM B, ∃ j : Nat, j < N ∧ s = (j : Int)) →
    qt.l7 K (A ++ B) k (yR N (zM A)) (A.length : Int) = .ok (yR N (zM (A ++ B)), 0) := by
  intro k
  induction k with
  | zero => intro A B h; omega
  | succ k ih =>
    intro A B h1 h2 h3 h4
    rw [qt.l7, qE]
    cases B with
    | nil => rw [if_neg (by simp)]; simp
    | cons p B =>
      have h3' := h3
      simp only [List.length_append, List.length_cons] at h1 h2
      simp only [zM, List.flatMap_append, List.flatMap_cons, List.length_append] at h3
      have hp := UQ K (qt.l7 K (A ++ p :: B) k) (A ++ p :: B) A.length N (by omega) (zM A) K [] p.symbols_ (by rw [x8 _ _ _ rfl]; rfl) (by omega) (by simp only [List.nil_append]; omega) (by simp only [List.append_nil, List.length_append, zM]; omega)
        (fun s hs => h4 s (by simp only [zM, List.flatMap_cons, List.mem_append]; exact .inl hs))
      simp only [List.append_nil, List.length_nil] at hp
      rw [if_pos (by simp only [List.length_append, List.length_cons]; omega), yd _ _ _ rfl, qv]
      rw [show ((0 : Nat) : Int) = 0 from rfl] at hp
      rw [hp]
      have := ih (A ++ [p]) B (by omega) (by simp only [List.length_append, List.length_cons, List.length_nil]; omega) (by rw [List.append_assoc]; exact h3') (fun s hs => h4 s (by simp only [zM, List.flatMap_cons, List.mem_append] at hs ⊢; exact .inr hs))
      rw [show zM A ++ p.symbols_ = zM (A ++ [p]) from by simp [zM], show ((A.length + 1 : Nat) : Int) = ((A ++ [p]).length : Int) from by simp, show A ++ p :: B = A ++ [p] ++ B from by simp, this]
theorem uV : ∀ (l : List Int) (i : Nat), (vc l i).length ≤ l.length
  | [], _ => Nat.le_refl _
  | n :: r, i => by
    unfold vc
    have := uV r (i + 1)
    split <;> simp <;> omega
theorem U7 (K : Nat) (often : List Int) (most : Int) (hl : often.length ≤ 320) : ∀ (k : Nat) (D T : List Int) (O : List PK), D ++ T = often → T.length < k → O.length ≤ D.length →
    qt.l2 K often most k O (D.length : Int) = qt.j3 K often most (O ++ vc T D.length) := by
  intro k
  induction k with
  | zero => intro D T O _ h; omega
  | succ k ih =>
    intro D T O h1 h2 h3
    have hlen : D.length + T.length = often.length := by rw [← h1]; simp
    rw [qt.l2, qE]
    cases T with
    | nil => rw [if_neg (by simp only [List.length_nil] at hlen; omega)]; simp [vc]
    | cons n T =>
      simp only [List.length_cons] at h2 hlen
      have hn : qk ((D.length : Int) + 1) = ((D ++ [n]).length : Int) := by rw [qK (by omega) (by omega)]; simp
      rw [if_pos (by omega), QP (by omega), qv, show rd often (D.length : Int) = n from by rw [← h1]; exact x8 _ _ _ rfl, qQ, qE, hn]
      by_cases h0 : n > 0
      · rw [if_pos h0, xF (by simp only [List.length_cons, List.length_nil]; omega), qv, qQ]
        have := ih (D ++ [n]) T (O ++ [⟨n, [(D.length : Int)]⟩]) (by rw [← h1]; simp) (by omega) (by simp; exact h3)
        rw [this]
        simp only [vc, List.length_append, List.length_cons, List.length_nil]
        rw [if_pos (by omega)]
        simp
      · rw [if_neg h0, ih (D ++ [n]) T O (by rw [← h1]; simp) (by omega) (by simp; omega)]
        simp only [vc, List.length_append, List.length_cons, List.length_nil]
        rw [if_neg (by omega)]
theorem ZV (K : Nat) (often : List Int) (hl : often.length ≤ 320) : ∀ (k : Nat) (D T : List Int), D ++ T = often → T.length < k →
    (zb.l1 K often k (D.length : Int)).bind (fun x => lt (decide (x ≥ (0 : Int))) fun v => .ok v) = .ok (T.any Y4) := by
  intro k
  induction k with
  | zero => intro D T _ h; omega
  | succ k ih =>
    intro D T h1 h2
    have hlen : D.length + T.length = often.length := by rw [← h1]; simp
    rw [zb.l1, qE]
    cases T with
    | nil => rw [if_neg (by simp only [List.length_nil] at hlen; omega)]; rfl
    | cons n T =>
      simp only [List.length_cons] at h2 hlen
      rw [if_pos (by omega), QP (by omega), qv, show rd often (D.length : Int) = n from by rw [← h1]; exact x8 _ _ _ rfl]
      unfold yA.m
      rw [qQ, qW.bind_ok, List.any_cons]
      cases hb : Y4 n with
      | true =>
        rw [show (decide (n < 0) || decide (n > 1099511627776)) = true from hb, cond_true, qW.bind_ok, qQ]
        simp
      | false =>
        rw [show (decide (n < 0) || decide (n > 1099511627776)) = false from hb, cond_false, show qk ((D.length : Int) + 1) = ((D ++ [n]).length : Int) from by rw [qK (by omega) (by omega)]; simp,
          ih (D ++ [n]) T (by rw [← h1]; simp) (by omega)]
        simp
theorem Va (often : List Int) : often.any Y4 = false ↔ ∀ n ∈ often, 0 ≤ n ∧ n ≤ 1099511627776 := by
  rw [List.any_eq_false]
  constructor
  · intro h n hn
    have := h n hn
    simp only [Y4, Bool.or_eq_true, decide_eq_true_eq] at this
    omega
  · intro h n hn
    have := h n hn
    simp only [Y4, Bool.or_eq_true, decide_eq_true_eq]
    omega
theorem Kq {m : Int} (h1 : 1 ≤ m) (h2 : m ≤ 15) : zV .i64 1 m = ((2 ^ m.toNat : Nat) : Int) := by
  obtain ⟨n, rfl⟩ : ∃ n : Nat, m = (n : Int) := ⟨m.toNat, by omega⟩
  have hp : 2 ^ n ≤ 2 ^ 15 := Nat.pow_le_pow_right (by decide) (by omega)
  have := jA (a := 1) (n := n) (by omega) (by omega)
  rw [Int.toNat_natCast]
  rw [show ((1 : Nat) : Int) = 1 from rfl] at this
  rw [this, Nat.one_mul]
end Go.Pu

set_option maxRecDepth 100000
namespace Go.Pu
open Go Go.Sl Go.Mo
def xw (K : Nat) (X : List PK) : Nat → List PK
  | 0 => X
  | t + 1 => match xR.m K X (prs (xw K X t)) with
    | .ok r => r
    | _ => []
theorem Qg (K : Nat) (X : List PK) (hX : X.length ≤ 320) (hK : 1000 ≤ K) (hK2 : (1099511627776 : Nat) > K) : ∀ t, (xw K X t).length ≤ 2 * X.length ∧ SS (X ++ prs (xw K X t)) (xw K X (t + 1)) ∧ xR.m K X (prs (xw K X t)) = .ok (xw K X (t + 1)) := by
  have step : ∀ t, (xw K X t).length ≤ 2 * X.length → SS (X ++ prs (xw K X t)) (xw K X (t + 1)) ∧ xR.m K X (prs (xw K X t)) = .ok (xw K X (t + 1)) := by
    intro t ht
    have hp := jU (xw K X t)
    obtain ⟨R, h1, h2⟩ := XN K X (prs (xw K X t)) (by omega) hK2 (by omega) (by omega)
    have : xw K X (t + 1) = R := by rw [xw, h2]
    rw [this]
    exact ⟨h1, h2⟩
  have len : ∀ t, (xw K X t).length ≤ 2 * X.length := by
    intro t
    induction t with
    | zero => simp only [xw]; omega
    | succ t ih =>
      have := (step t ih).1.2.1.length_eq
      rw [this, List.length_append, jU]; omega
  exact fun t => ⟨len t, step t (len t)⟩
theorem Yb (K : Nat) (X : List PK) (hX : X.length ≤ 320) (hK : 1000 ≤ K) (hK2 : (1099511627776 : Nat) > K) (h1 : ∀ p ∈ X, p.symbols_.length = 1) (h2 : ∀ p ∈ X, 0 < p.often_) (h3 : yC X) : Rows X (xw K X) :=
  ⟨rfl, fun t => (Qg K X hX hK hK2 t).2.1, h1, h2, h3⟩
section
variable {X : List PK} {R : Nat → List PK} (H : Rows X R)
include H
theorem Rows.big (hb : ∀ p ∈ X, p.often_ ≤ 1099511627776) : ∀ t, ∀ p ∈ R t, p.often_ ≤ 1099511627776 * 2 ^ t ∧ p.symbols_.length ≤ 2 ^ t
  | 0, p, hp => by rw [H.zero] at hp; exact ⟨by have := hb p hp; simpa using this, by rw [H.one p hp]; exact Nat.le_refl _⟩
  | t + 1, p, hp => by
    have e1 : (2 : Int) ^ (t + 1) = 2 ^ t + 2 ^ t := by rw [Int.pow_succ]; omega
    have e2 : 2 ^ (t + 1) = 2 ^ t + 2 ^ t := by rw [Nat.pow_succ]; omega
    have p1 : (1 : Int) ≤ 2 ^ t := by have : 1 ≤ 2 ^ t := Nat.one_le_two_pow; exact_mod_cast this
    have p2 : 1 ≤ 2 ^ t := Nat.one_le_two_pow
    rcases List.mem_append.1 ((H.succ t).2.1.mem_iff.1 hp) with h | h
    · have := hb p h
      refine ⟨?_, by rw [H.one p h]; omega⟩
      rw [e1]; omega
    · obtain ⟨u, hu, v, hv, h1, h2⟩ := Zy h
      have g1 := Rows.big hb t u hu
      have g2 := Rows.big hb t v hv
      exact ⟨by rw [h1, e1]; omega, by rw [h2, List.length_append]; omega⟩
theorem Rows.lack : ∀ t, (R t).length ≤ 2 * X.length ∧ (2 * X.length - (R t).length) * 2 ^ t + 1 ≤ X.length + 2 ^ t
  | 0 => by rw [H.zero]; simp only [Nat.pow_zero]; omega
  | t + 1 => by
    obtain ⟨h1, h2⟩ := Rows.lack t
    have hl := H.len t
    refine ⟨by omega, ?_⟩
    obtain ⟨r, hr⟩ : ∃ r, 2 * X.length - (R t).length = r := ⟨_, rfl⟩
    have hr2 : 2 * X.length - (R (t + 1)).length = (r + 1) / 2 := by omega
    rw [hr] at h2
    rw [hr2, Nat.pow_succ]
    have : (r + 1) / 2 * (2 ^ t * 2) ≤ (r + 1) * 2 ^ t := by
      rw [Nat.mul_comm (2 ^ t) 2, ← Nat.mul_assoc]
      exact Nat.mul_le_mul_right _ (by omega)
    rw [Nat.add_mul, Nat.one_mul] at this
    omega
theorem Rows.size : ∀ t m, m ≤ (R t).length → (zM ((R t).take m)).length ≤ (t + 1) * X.length
  | 0, m, h => by
    rw [H.zero]
    have : ∀ l : List PK, (∀ p ∈ l, p.symbols_.length = 1) → (zM l).length = l.length := by
      intro l
      induction l with
      | nil => intro _; rfl
      | cons p l ih => intro hh; simp only [zM, List.flatMap_cons, List.length_append, List.length_cons] at ih ⊢; rw [ih (fun q hq => hh q (by simp [hq])), hh p (by simp)]; omega
    rw [this _ (fun p hp => H.one p (List.mem_of_mem_take hp))]
    have := (List.take_sublist m X).length_le
    omega
  | t + 1, m, h => by
    have hp := (List.filter_append_perm xQ ((R (t + 1)).take m)).flatMap_right (·.symbols_)
    have h1 := hp.length_eq
    rw [List.flatMap_append, List.length_append, H.takeOne, H.takeTwo, Qm] at h1
    have h2 := H.twoLe t m
    have h3 : ((R t).take (2 * jV R (t + 1) m)).length = 2 * jV R (t + 1) m := by rw [List.length_take, Nat.min_eq_left h2]
    have h4 := ur (l := (R t).take (2 * jV R (t + 1) m)) (by rw [h3]; omega)
    have h5 := Rows.size t (2 * jV R (t + 1) m) h2
    have h6 : (zM (X.take (XO R (t + 1) m))).length ≤ X.length := by
      have : ∀ l : List PK, (∀ p ∈ l, p.symbols_.length = 1) → (zM l).length = l.length := by
        intro l
        induction l with
        | nil => intro _; rfl
        | cons p l ih => intro hh; simp only [zM, List.flatMap_cons, List.length_append, List.length_cons] at ih ⊢; rw [ih (fun q hq => hh q (by simp [hq])), hh p (by simp)]; omega
      rw [this _ (fun p hp => H.one p (List.mem_of_mem_take hp))]
      exact (List.take_sublist _ X).length_le
    simp only [zM] at h4 h5 h6 ⊢
    rw [h4] at h1
    rw [Nat.add_mul (t + 1) 1, Nat.one_mul]
    omega
end
theorem UX (K : Nat) (most : Int) (L : Nat) (hL : most = (L : Int)) (hL1 : 1 ≤ L) (hL2 : L ≤ 15) (out : List Int) (X : List PK) (hX : X.length ≤ 320) (hK : 1000 ≤ K) (hK2 : (1099511627776 : Nat) > K) (h1 : ∀ p ∈ X, p.symbols_.length = 1) (h2 : ∀ p ∈ X, 0 < p.often_) (h3 : yC X) (hb : ∀ p ∈ X, p.often_ ≤ 1099511627776) :
    ∀ (j k t : Nat), t + j = L - 1 → j < k → qt.l5 K most out X k (xw K X t) (t : Int) = qt.j6 K out X (xw K X (L - 1)) := by
  intro j
  induction j with
  | zero =>
    intro k t hj hk
    obtain ⟨k, rfl⟩ : ∃ m, k = m + 1 := ⟨k - 1, by omega⟩
    have : t = L - 1 := by omega
    subst this
    rw [qt.l5, qE, hL, qK (by omega) (by omega), if_neg (by omega)]
  | succ j ih =>
    intro k t hj hk
    obtain ⟨k, rfl⟩ : ∃ m, k = m + 1 := ⟨k - 1, by omega⟩
    have H := Yb K X hX hK hK2 h1 h2 h3
    have hr := Qg K X hX hK hK2 t
    have hp : z9.m K (xw K X t) = .ok (prs (xw K X t)) := by
      refine Y3 K _ (by omega) (by omega) (by omega) fun p hp => ?_
      have g1 := H.good t p hp
      have g2 := H.big hb t p hp
      have p1 : (2 : Int) ^ t ≤ 2 ^ 14 := by have : 2 ^ t ≤ 2 ^ 14 := Nat.pow_le_pow_right (by decide) (by omega); exact_mod_cast this
      have p2 : 2 ^ t ≤ 2 ^ 14 := Nat.pow_le_pow_right (by decide) (by omega)
      refine ⟨by omega, by omega, by omega⟩
    rw [qt.l5, qE, hL, qK (by omega) (by omega), if_pos (by omega), hp, qW.bind_ok, hr.2.2, qW.bind_ok, qK (by omega) (by omega), ← hL]
    exact ih k (t + 1) (by omega) (by omega)
theorem vw : ∀ (l : List Int) (i : Nat), ∀ p ∈ vc l i, ∃ j, j < l.length ∧ 0 < rd l (j : Int) ∧ p = ⟨rd l (j : Int), [((i + j : Nat) : Int)]⟩
  | [], _, p, hp => by simp [vc] at hp
  | n :: r, i, p, hp => by
    have tail : p ∈ vc r (i + 1) → ∃ j, j < (n :: r).length ∧ 0 < rd (n :: r) (j : Int) ∧ p = ⟨rd (n :: r) (j : Int), [((i + j : Nat) : Int)]⟩ := by
      intro h
      obtain ⟨j, h1, h2, h3⟩ := vw r (i + 1) p h
      refine ⟨j + 1, by simp; exact h1, ?_, ?_⟩
      · have : rd (n :: r) ((j + 1 : Nat) : Int) = rd r (j : Int) := by simp [rd]
        rw [this]; exact h2
      · have : rd (n :: r) ((j + 1 : Nat) : Int) = rd r (j : Int) := by simp [rd]
        rw [this, h3]; simp; omega
    unfold vc at hp
    split at hp
    · rename_i h0
      rcases List.mem_cons.1 hp with rfl | hp
      · exact ⟨0, by simp, by simpa [rd] using h0, by simp [rd]⟩
      · exact tail hp
    · exact tail hp
theorem uT : ∀ (l : List Int) (i j : Nat), j < l.length → 0 < rd l (j : Int) → (⟨rd l (j : Int), [((i + j : Nat) : Int)]⟩ : PK) ∈ vc l i
  | [], _, j, h, _ => by simp at h
  | n :: r, i, 0, h, h0 => by
    have : 0 < n := by simpa [rd] using h0
    simp [vc, this, rd]
  | n :: r, i, j + 1, h, h0 => by
    have e : rd (n :: r) ((j + 1 : Nat) : Int) = rd r (j : Int) := by simp [rd]
    rw [e] at h0 ⊢
    have := uT r (i + 1) j (by simpa using h) h0
    rw [show ((i + 1 + j : Nat) : Int) = ((i + (j + 1) : Nat) : Int) from by omega] at this
    unfold vc
    split
    · exact List.mem_cons_of_mem _ this
    · exact this
theorem QV : ∀ (l : List Int) (i : Nat), (zM (vc l i)).Nodup
  | [], _ => by simp [vc, zM]
  | n :: r, i => by
    have ih := QV r (i + 1)
    unfold vc
    split
    · simp only [zM, List.flatMap_cons, List.singleton_append] at ih ⊢
      refine List.nodup_cons.2 ⟨fun h => ?_, ih⟩
      obtain ⟨p, hp, hs⟩ := List.mem_flatMap.1 h
      obtain ⟨j, _, _, rfl⟩ := vw r (i + 1) p hp
      simp at hs; omega
    · exact ih
end Go.Pu

set_option maxRecDepth 100000
namespace Go.Pu
open Go Go.Sl Go.Mo
structure Jd (often : List Int) (most : Int) (l : List Int) : Prop where
  len : l.length = often.length
  rng : ∀ j : Nat, j < often.length → 0 ≤ rd l (j : Int) ∧ rd l (j : Int) ≤ most
  zero : ∀ j : Nat, j < often.length → (rd l (j : Int) = 0 ↔ rd often (j : Int) = 0)
  chk : zW l = 0
  mono : ∀ i k : Nat, i < often.length → k < often.length → 0 < rd often (i : Int) → rd often (i : Int) < rd often (k : Int) → rd l (k : Int) ≤ rd l (i : Int)
def wt (x : Int) : Nat := if 0 < x ∧ x < 16 then 2 ^ (15 - x.toNat) else 0
theorem Jc : ∀ l : List Int, ks l 16 = (l.map wt).sum
  | [] => by simp [ks, c0]
  | x :: l => by rw [Zq, Jc l, List.map_cons, List.sum_cons, wt, show ((16 : Nat) : Int) = 16 from rfl]; omega
theorem jY : ∀ (X : List PK) (a : Nat), (∀ p ∈ X, p.symbols_.length = 1) → zM (X.take a) = (zM X).take a
  | [], a, _ => by simp [zM]
  | p :: X, 0, _ => by simp [zM]
  | p :: X, a + 1, h => by
    obtain ⟨s, hs⟩ := List.length_eq_one_iff.1 (h p (by simp))
    have := jY X a (fun q hq => h q (by simp [hq]))
    simp only [zM] at this ⊢
    simp only [List.take_succ_cons, List.flatMap_cons, hs, List.singleton_append, this]
theorem xZ : ∀ (X : List PK), (∀ p ∈ X, p.symbols_.length = 1) → (zM X).length = X.length
  | [], _ => rfl
  | p :: X, h => by
    have := xZ X (fun q hq => h q (by simp [hq]))
    simp only [zM] at this
    simp only [zM, List.flatMap_cons, List.length_append, List.length_cons, this, h p (by simp)]; omega
theorem QZ : ∀ (X : List PK) (i : Nat), (∀ p ∈ X, p.symbols_.length = 1) → i < X.length → ∃ s, (zM X)[i]? = some s ∧ (rd X (i : Int)).symbols_ = [s]
  | [], i, _, h => by simp at h
  | p :: X, 0, h, _ => by
    obtain ⟨s, hs⟩ := List.length_eq_one_iff.1 (h p (by simp))
    exact ⟨s, by simp [zM, hs], by simp [rd, hs]⟩
  | p :: X, i + 1, h, hi => by
    obtain ⟨s0, hs0⟩ := List.length_eq_one_iff.1 (h p (by simp))
    obtain ⟨s, h1, h2⟩ := QZ X i (fun q hq => h q (by simp [hq])) (by simpa using hi)
    refine ⟨s, ?_, ?_⟩
    · simp only [zM] at h1
      simp [zM, hs0, h1]
    · have : rd (p :: X) ((i + 1 : Nat) : Int) = rd X (i : Int) := by simp [rd]
      rw [this]; exact h2
theorem X4 {Y : List Int} (hn : Y.Nodup) {i : Nat} {s : Int} (hs : Y[i]? = some s) (a : Nat) : (Y.take a).count s = if i < a then 1 else 0 := by
  obtain ⟨hi, rfl⟩ := List.getElem?_eq_some_iff.1 hs
  by_cases h : i < a
  · rw [if_pos h]
    have hm : Y[i] ∈ Y.take a := List.mem_take_iff_getElem.2 ⟨i, by omega, rfl⟩
    have h1 : 0 < (Y.take a).count Y[i] := List.count_pos_iff.2 hm
    have h2 := List.nodup_iff_count.1 (hn.sublist (List.take_sublist a Y)) Y[i]
    omega
  · rw [if_neg h]
    rw [List.count_eq_zero]
    intro hm
    obtain ⟨j, hj, hj2⟩ := List.mem_take_iff_getElem.1 hm
    have hpw := List.pairwise_iff_getElem.1 hn
    rcases Nat.lt_trichotomy i j with h1 | h1 | h1
    · exact hpw i j hi (by omega) h1 hj2.symm
    · omega
    · exact hpw j i (by omega) hi h1 hj2
theorem VV (as : List Nat) (i : Nat) : (as.map fun a => if i < a then 1 else 0).sum = vh as i := by
  induction as with
  | nil => rfl
  | cons a r ih =>
    rw [List.map_cons, List.sum_cons, ih]
    unfold vh
    by_cases h : i < a
    · rw [List.filter_cons_of_pos (by simpa using h), if_pos h, List.length_cons]; omega
    · rw [List.filter_cons_of_neg (by simpa using h), if_neg h]; omega
theorem Jt (as : List Nat) {i j : Nat} (h : i ≤ j) : vh as j ≤ vh as i := by
  unfold vh
  induction as with
  | nil => simp
  | cons a r ih =>
    simp only [List.filter_cons]
    by_cases hj : j < a
    · rw [if_pos (by simpa using hj), if_pos (by simp; omega)]; simp; exact ih
    · rw [if_neg (by simpa using hj)]
      split
      · rw [List.length_cons]; omega
      · exact ih
structure Je (often : List Int) (X : List PK) : Prop where
  one : ∀ p ∈ X, p.symbols_.length = 1
  nod : (zM X).Nodup
  sym : ∀ i, i < X.length → ∃ j : Nat, j < often.length ∧ 0 < rd often (j : Int) ∧ (zM X)[i]? = some (j : Int) ∧ (rd X (i : Int)).often_ = rd often (j : Int)
  has : ∀ j : Nat, j < often.length → 0 < rd often (j : Int) → ∃ i, i < X.length ∧ (zM X)[i]? = some (j : Int)
theorem Jk {often : List Int} {X : List PK} (h : X.Perm (vc often 0)) : Je often X := by
  have one : ∀ p ∈ X, p.symbols_.length = 1 := fun p hp => by
    obtain ⟨j, _, _, rfl⟩ := vw often 0 p (h.mem_iff.1 hp)
    rfl
  have hp : (zM X).Perm (zM (vc often 0)) := List.Perm.flatMap_right (fun p : PK => p.symbols_) h
  refine ⟨one, hp.nodup_iff.2 (QV often 0), fun i hi => ?_, fun j hj h0 => ?_⟩
  · have hm : rd X (i : Int) ∈ X := by simp only [rd, Int.toNat_natCast, List.getD, List.getElem?_eq_getElem hi]; exact List.getElem_mem hi
    obtain ⟨j, h1, h2, h3⟩ := vw often 0 _ (h.mem_iff.1 hm)
    obtain ⟨s, h4, h5⟩ := QZ X i one hi
    have e : s = ((0 + j : Nat) : Int) := by rw [h3] at h5; simpa using h5.symm
    rw [Nat.zero_add] at e
    exact ⟨j, h1, h2, by rw [h4, e], by rw [h3]⟩
  · have hm := h.mem_iff.2 (uT often 0 j hj h0)
    have hs : ((0 + j : Nat) : Int) ∈ zM X := by
      unfold zM
      exact List.mem_flatMap.2 ⟨_, hm, by simp⟩
    obtain ⟨i, hi, he⟩ := List.getElem_of_mem hs
    rw [xZ X one] at hi
    rw [Nat.zero_add] at he
    exact ⟨i, hi, by rw [List.getElem?_eq_getElem (by rw [xZ X one]; exact hi), he]⟩
theorem YN {often : List Int} {X : List PK} {most : Int} {L : Nat} (hm : most = (L : Int)) (hL1 : 1 ≤ L) (hL : L ≤ 15) (hN : often.length ≤ 320) (hnn : ∀ n ∈ often, 0 ≤ n) (P : Je often X) (hs : yC X) (as : List Nat) (hasl : as.length = L) (D : List Int)
    (hD : ∀ s, D.count s = (as.map fun a => (zM (X.take a)).count s).sum) (hk : ((List.range X.length).map fun i => 2 ^ (L - vh as i)).sum = 2 ^ L) (hX : 2 ≤ X.length) : Jd often most (yR often.length D) := by
  have hcnt : ∀ (i : Nat) (s : Int), (zM X)[i]? = some s → D.count s = vh as i := by
    intro i s hi
    rw [hD, ← VV]
    congr 1
    refine List.map_congr_left fun a _ => ?_
    rw [jY X a P.one, X4 P.nod hi]
  have hrd : ∀ j : Nat, j < often.length → rd (yR often.length D) (j : Int) = ((D.count (j : Int) : Nat) : Int) := fun j hj => uQ hj
  have hone : ∀ i, i < X.length → 1 ≤ vh as i := by
    intro i hi
    refine Nat.pos_of_ne_zero fun h0 => ?_
    -- a term is the whole sum already, and there is another one
    have key : ∀ n, i < n → n ≤ X.length → 2 ^ L + (n - 1) ≤ ((List.range n).map fun i => 2 ^ (L - vh as i)).sum := by
      intro n
      induction n with
      | zero => intro h; omega
      | succ n ih =>
        intro h1 h2
        rw [List.range_succ, List.map_append, List.sum_append]
        simp only [List.map_cons, List.map_nil, List.sum_cons, List.sum_nil, Nat.add_zero]
        by_cases hin : i < n
        · have := ih hin (by omega)
          have h3 : 1 ≤ 2 ^ (L - vh as n) := Nat.one_le_two_pow
          omega
        · have : i = n := by omega
          subst this
          rw [h0, Nat.sub_zero]
          have low : ∀ m, m ≤ i → m ≤ ((List.range m).map fun i => 2 ^ (L - vh as i)).sum := by
            intro m
            induction m with
            | zero => intro _; exact Nat.zero_le _
            | succ m ih =>
              intro hm
              rw [List.range_succ, List.map_append, List.sum_append]
              simp only [List.map_cons, List.map_nil, List.sum_cons, List.sum_nil, Nat.add_zero]
              have := ih (by omega)
              have h3 : 1 ≤ 2 ^ (L - vh as m) := Nat.one_le_two_pow
              omega
          have := low i (Nat.le_refl _)
          omega
    have := key X.length hi (Nat.le_refl _)
    omega
  have hle : ∀ i, vh as i ≤ L := fun i => by rw [← hasl]; exact Uh as i
  have hzero : ∀ j : Nat, j < often.length → ¬ 0 < rd often (j : Int) → D.count (j : Int) = 0 := by
    intro j hj h0
    rw [hD]
    have : ∀ a, (zM (X.take a)).count (j : Int) = 0 := by
      intro a
      rw [jY X a P.one, List.count_eq_zero]
      intro hmem
      obtain ⟨i, hi, he⟩ := List.getElem_of_mem (List.mem_of_mem_take hmem)
      rw [xZ X P.one] at hi
      obtain ⟨j', h1, h2, h3, _⟩ := P.sym i hi
      rw [List.getElem?_eq_getElem (by rw [xZ X P.one]; exact hi), he] at h3
      have : j = j' := by have := Option.some.inj h3; omega
      subst this; exact h0 h2
    have z : ∀ as : List Nat, (as.map fun _ => 0).sum = 0 := by
      intro as
      induction as with
      | nil => rfl
      | cons a r ih => rw [List.map_cons, List.sum_cons, ih]
    simp only [this]
    exact z as
  have hNN : ∀ j : Nat, j < often.length → 0 ≤ rd often (j : Int) := fun j hj => hnn _ (by
    simp only [rd, Int.toNat_natCast, List.getD, List.getElem?_eq_getElem hj]; exact List.getElem_mem hj)
  have rng : ∀ j : Nat, j < often.length → 0 ≤ rd (yR often.length D) (j : Int) ∧ rd (yR often.length D) (j : Int) ≤ most := by
    intro j hj
    rw [hrd j hj, hm]
    by_cases h0 : 0 < rd often (j : Int)
    · obtain ⟨i, hi, h1⟩ := P.has j hj h0
      rw [hcnt i _ h1]
      have := hle i
      omega
    · rw [hzero j hj h0]; omega
  refine ⟨yn _ _, rng, fun j hj => ?_, ?_, fun i k hi hk0 h0 hlt => ?_⟩
  · rw [hrd j hj]
    by_cases h0 : 0 < rd often (j : Int)
    · obtain ⟨i, hi, h1⟩ := P.has j hj h0
      rw [hcnt i _ h1]
      have := hone i hi
      omega
    · rw [hzero j hj h0]
      have := hNN j hj
      omega
  · -- the sum
    have hok : XG (yR often.length D) := by
      refine ⟨by rw [yn]; exact hN, fun x hx => ?_⟩
      obtain ⟨j, hj, rfl⟩ := yE hx
      rw [yn] at hj
      have := rng j hj
      exact ⟨this.1, by omega⟩
    unfold zW
    rw [if_pos hok, if_pos]
    refine .inr (.inr ?_)
    rw [Jc]
    -- over the symbols that come at all
    obtain ⟨F, hF⟩ : ∃ F : Int → Nat, ∀ s, F s = wt ((D.count s : Nat) : Int) := ⟨fun s => wt ((D.count s : Nat) : Int), fun _ => rfl⟩
    have e1 : ((yR often.length D).map wt).sum = (((List.range often.length).map fun (j : Nat) => (j : Int)).filter (fun s => decide (0 < rd often s)) |>.map F).sum := by
      have gen : ∀ n, n ≤ often.length → ((yR n D).map wt).sum = (((List.range n).map fun (j : Nat) => (j : Int)).filter (fun s => decide (0 < rd often s)) |>.map F).sum := by
        intro n
        induction n with
        | zero => intro _; rfl
        | succ n ih =>
          intro hn
          have := ih (by omega)
          unfold yR at this ⊢
          rw [List.range_succ, List.map_append, List.map_append, List.sum_append, this, List.map_append, List.filter_append, List.map_append, List.sum_append]
          congr 1
          simp only [List.map_cons, List.map_nil]
          by_cases h0 : 0 < rd often (n : Int)
          · rw [List.filter_cons_of_pos (by simpa using h0)]
            simp [hF]
          · rw [List.filter_cons_of_neg (by simpa using h0), hzero n (by omega) h0]
            simp [wt]
      exact gen _ (Nat.le_refl _)
    have hperm : (((List.range often.length).map fun (j : Nat) => (j : Int)).filter (fun s => decide (0 < rd often s))).Perm (zM X) := by
      refine (List.perm_ext_iff_of_nodup ?_ P.nod).2 fun s => ?_
      · refine List.Pairwise.filter _ ?_
        refine List.Pairwise.map _ ?_ List.nodup_range
        intro a b hab he; exact hab (by have he' : (a : Int) = (b : Int) := he; omega)
      · simp only [List.mem_filter, List.mem_map, List.mem_range, decide_eq_true_eq]
        constructor
        · rintro ⟨⟨j, hj, rfl⟩, h0⟩
          obtain ⟨i, hi, h1⟩ := P.has j hj h0
          exact List.mem_of_getElem? h1
        · intro hs
          obtain ⟨i, hi, he⟩ := List.getElem_of_mem hs
          rw [xZ X P.one] at hi
          obtain ⟨j, h1, h2, h3, _⟩ := P.sym i hi
          rw [List.getElem?_eq_getElem (by rw [xZ X P.one]; exact hi), he] at h3
          have : s = (j : Int) := by simpa using h3
          subst this
          exact ⟨⟨j, h1, rfl⟩, h2⟩
    rw [e1, (hperm.map F).sum_nat]
    have e2 : (zM X).map F = (List.range X.length).map fun i => wt ((vh as i : Nat) : Int) := by
      apply List.ext_getElem
      · simp [xZ X P.one]
      · intro i h1 h2
        simp only [List.length_map, List.length_range] at h2
        simp only [List.getElem_map, List.getElem_range, hF]
        congr 2
        exact hcnt i _ (List.getElem?_eq_getElem _)
    rw [e2]
    have e3 : ∀ n, n ≤ X.length → ((List.range n).map fun i => wt ((vh as i : Nat) : Int)).sum = 2 ^ (15 - L) * ((List.range n).map fun i => 2 ^ (L - vh as i)).sum := by
      intro n
      induction n with
      | zero => intro _; rfl
      | succ n ih =>
        intro hn
        rw [List.range_succ, List.map_append, List.map_append, List.sum_append, List.sum_append, ih (by omega), Nat.mul_add]
        congr 1
        simp only [List.map_cons, List.map_nil, List.sum_cons, List.sum_nil, Nat.add_zero]
        have g1 := hone n (by omega)
        have g2 := hle n
        unfold wt
        rw [if_pos (by omega), Int.toNat_natCast, ← Nat.pow_add]
        congr 1; omega
    rw [e3 _ (Nat.le_refl _), hk, ← Nat.pow_add, show 15 - L + L = 15 from by omega]
  · rw [hrd i hi, hrd k hk0]
    obtain ⟨p, hp, h1⟩ := P.has i hi h0
    obtain ⟨q, hq, h2⟩ := P.has k hk0 (by omega)
    rw [hcnt p _ h1, hcnt q _ h2]
    have : vh as q ≤ vh as p := by
      refine Jt as ?_
      refine Nat.le_of_not_lt fun hlt2 => ?_
      have g := hs.rd (i := q) (j := p) (by omega) hp
      obtain ⟨j1, _, _, e1, e2⟩ := P.sym p hp
      obtain ⟨j2, _, _, e3, e4⟩ := P.sym q hq
      rw [h1] at e1; rw [h2] at e3
      have : i = j1 := by have := Option.some.inj e1; omega
      have : k = j2 := by have := Option.some.inj e3; omega
      subst_vars
      rw [e2, e4] at g
      omega
    omega
end Go.Pu

set_option maxRecDepth 100000
namespace Go.Pu
open Go Go.Sl Go.Mo
theorem YS (often : List Int) (hnn : ∀ n ∈ often, 0 ≤ n ∧ n ≤ 1099511627776) : ∀ p ∈ vc often 0, p.symbols_.length = 1 ∧ 0 < p.often_ ∧ p.often_ ≤ 1099511627776 := by
  intro p hp
  obtain ⟨j, h1, h2, rfl⟩ := vw often 0 p hp
  have hm : rd often (j : Int) ∈ often := by simp only [rd, Int.toNat_natCast, List.getD, List.getElem?_eq_getElem h1]; exact List.getElem_mem h1
  exact ⟨rfl, h2, (hnn _ hm).2⟩
theorem XT (N : Nat) : nz (yR N []) = [] := by
  rw [v8, nz, List.filter_eq_nil_iff]
  intro x hx
  rw [(List.mem_replicate.1 hx).2]; simp
theorem Xs (K : Nat) (often : List Int) (most : Int) (hK : 6000 ≤ K) (hK2 : (1099511627776 : Nat) > K) (h : Kh often most) : ∃ l, qt.m K often most = .ok (l, 0) ∧ Jd often most l := by
  obtain ⟨m1, m2, hN, hnn, hs⟩ := h
  obtain ⟨L, rfl⟩ : ∃ L : Nat, most = (L : Int) := ⟨most.toNat, by omega⟩
  rw [Int.toNat_natCast] at hs
  have hp15 : 2 ^ L ≤ 2 ^ 15 := Nat.pow_le_pow_right (by decide) (by omega)
  have hNN : ∀ j : Nat, j < often.length → 0 ≤ rd often (j : Int) := fun j hj => (hnn _ (by
    simp only [rd, Int.toNat_natCast, List.getD, List.getElem?_eq_getElem hj]; exact List.getElem_mem hj)).1
  -- the U4 up to the single ones
  have hstart : qt.m K often (L : Int) = qt.j3 K often (L : Int) (vc often 0) := by
    unfold qt.m
    have h1 : (((decide ((L : Int) < (1 : Int))) || (decide ((L : Int) > (15 : Int)))) || (decide ((often.length : Int) > (320 : Int)))) = false := by
      simp only [Bool.or_eq_false_iff, decide_eq_false_iff_not]; omega
    have hc : zQ.m K often = .ok (often.any Y4) := ZV K often (by omega) K [] often rfl (by omega)
    rw [h1, cond_false, hc, qW.bind_ok, (Va often).2 hnn]
    unfold qt.j1
    have := U7 K often (L : Int) (by omega) K [] often [] rfl (by omega) (Nat.le_refl _)
    rw [show (([] : List Int).length : Int) = 0 from rfl] at this
    rw [cond_false, this, List.nil_append]
    rfl
  have hsl := uV often 0
  have hj3 : qt.j3 K often (L : Int) (vc often 0) = if (vc often 0).length = 1 then
      chk (inb (0 : Int) (vc often 0).length) (chk (inb (0 : Int) ((rd (vc often 0) (0 : Int)).symbols_).length) (chk (inb (rd ((rd (vc often 0) (0 : Int)).symbols_) (0 : Int)) (List.replicate often.length (0 : Int)).length)
        (lt ((List.replicate often.length (0 : Int)).set (Int.toNat (rd ((rd (vc often 0) (0 : Int)).symbols_) (0 : Int))) (1 : Int)) fun zs => qt.j4 K (L : Int) (vc often 0) zs)))
      else qt.j4 K (L : Int) (vc often 0) (List.replicate often.length 0) := by
    unfold qt.j3
    rw [ju (by omega), qv, Kq (by omega) (by omega), qE, if_neg (by rw [Int.toNat_natCast]; omega), Int.toNat_natCast, show (decide (0 ≤ (often.length : Int)) && room often.length 8) = true from by rw [Bool.and_eq_true]; exact ⟨ju (by omega), xF (by omega)⟩, qv, qQ, xz]
    by_cases h1 : (vc often 0).length = 1
    · rw [if_pos (by omega), if_pos h1]
    · rw [if_neg (by omega), if_neg h1]
  rw [hstart, hj3]
  have hfacts := YS often hnn
  by_cases hn : (vc often 0).length < 2
  · by_cases h1 : (vc often 0).length = 1
    · -- one symbol
      rw [if_pos h1]
      obtain ⟨p, hp⟩ := List.length_eq_one_iff.1 h1
      obtain ⟨j, j1, j2, j3⟩ := vw often 0 p (by rw [hp]; simp)
      rw [Nat.zero_add] at j3
      have hr : rd (vc often 0) (0 : Int) = p := by rw [hp]; rfl
      have hr2 : rd p.symbols_ (0 : Int) = (j : Int) := by rw [j3]; rfl
      rw [hr, hr2, h1, show inb (0 : Int) 1 = true from rfl, qv, show inb (0 : Int) p.symbols_.length = true from by rw [j3]; rfl, qv, List.length_replicate, QP j1, qv, qQ, Int.toNat_natCast]
      unfold qt.j4
      rw [qE, if_pos (by omega)]
      have e : (List.replicate often.length (0 : Int)).set j 1 = yR often.length [(j : Int)] := by
        have := Q6 (N := often.length) (D := []) j1
        rw [v8] at this
        simpa using this
      rw [e]
      have uniq : ∀ i : Nat, i < often.length → 0 < rd often (i : Int) → i = j := by
        intro i hi h0
        have := uT often 0 i hi h0
        rw [hp, List.mem_singleton, j3] at this
        have := congrArg (fun q : PK => q.symbols_) this
        simp at this; omega
      have hc : ∀ i : Nat, i < often.length → rd (yR often.length [(j : Int)]) (i : Int) = if i = j then 1 else 0 := by
        intro i hi
        rw [uQ hi]
        by_cases hij : i = j
        · subst hij; simp
        · rw [if_neg hij]
          have : ¬ ((j : Int) = (i : Int)) := by omega
          simp [List.count_cons, this]
      refine ⟨_, rfl, yn _ _, fun i hi => ?_, fun i hi => ?_, ?_, fun i k hi hk h0 hlt => ?_⟩
      · rw [hc i hi]; split <;> omega
      · rw [hc i hi]
        by_cases hij : i = j
        · subst hij; rw [if_pos rfl]; omega
        · rw [if_neg hij]
          have := hNN i hi
          have h2 : ¬ 0 < rd often (i : Int) := fun h => hij (uniq i hi h)
          omega
      · unfold zW
        rw [if_pos, if_pos]
        · refine .inr (.inl ?_)
          rw [← e, nz]
          have gen : ∀ n, ∀ i, i < n → (((List.replicate n (0 : Int)).set i 1).filter fun x => decide (0 < x)) = [1] := by
            intro n
            induction n with
            | zero => intro i h; omega
            | succ n ih =>
              intro i hi
              cases i with
              | zero =>
                have z : ((List.replicate n (0 : Int)).filter fun x => decide (0 < x)) = [] := by
                  rw [List.filter_eq_nil_iff]; intro x hx; rw [(List.mem_replicate.1 hx).2]; simp
                rw [List.replicate_succ, List.set_cons_zero, List.filter_cons_of_pos (by decide), z]
              | succ i => rw [List.replicate_succ, List.set_cons_succ, List.filter_cons_of_neg (by decide), ih i (by omega)]
          exact gen _ j j1
        · refine ⟨by rw [yn]; exact hN, fun x hx => ?_⟩
          obtain ⟨i, hi, rfl⟩ := yE hx
          rw [yn] at hi
          rw [hc i hi]
          unfold YP
          split <;> omega
      · have := uniq i hi h0
        have := uniq k hk (by omega)
        subst_vars; omega
    · -- none
      rw [if_neg h1]
      unfold qt.j4
      rw [qE, if_pos (by omega), ← v8]
      have h0 : vc often 0 = [] := List.length_eq_zero_iff.1 (by omega)
      have none : ∀ i : Nat, i < often.length → ¬ 0 < rd often (i : Int) := by
        intro i hi hpos
        have := uT often 0 i hi hpos
        rw [h0] at this; cases this
      have hc : ∀ i : Nat, i < often.length → rd (yR often.length []) (i : Int) = 0 := fun i hi => by rw [uQ hi]; rfl
      refine ⟨_, rfl, yn _ _, fun i hi => by rw [hc i hi]; omega, fun i hi => ?_, ?_, fun i k hi hk hp hlt => (none i hi hp).elim⟩
      · rw [hc i hi]
        have := none i hi; have := hNN i hi; omega
      · unfold zW
        rw [if_pos, if_pos (.inl (XT _))]
        refine ⟨by rw [yn]; exact hN, fun x hx => ?_⟩
        obtain ⟨i, hi, rfl⟩ := yE hx
        rw [yn] at hi
        rw [hc i hi]; unfold YP; omega
  · -- many
    rw [if_neg (by omega)]
    unfold qt.j4
    obtain ⟨X, x1, x2⟩ := Qf K (vc often 0) hK2 (by omega) (by omega)
    rw [qE, if_neg (by omega), x2, qW.bind_ok]
    have hXl : X.length = (vc often 0).length := x1.2.1.length_eq
    have g1 : ∀ p ∈ X, p.symbols_.length = 1 := fun p hp => (hfacts p (x1.2.1.mem_iff.1 hp)).1
    have g2 : ∀ p ∈ X, 0 < p.often_ := fun p hp => (hfacts p (x1.2.1.mem_iff.1 hp)).2.1
    have g3 : ∀ p ∈ X, p.often_ ≤ 1099511627776 := fun p hp => (hfacts p (x1.2.1.mem_iff.1 hp)).2.2
    have H := Yb K X (by omega) (by omega) hK2 g1 g2 x1.1
    have h5 := UX K (L : Int) L rfl (by omega) (by omega) (List.replicate often.length 0) X (by omega) (by omega) hK2 g1 g2 x1.1 g3 (L - 1) K 0 (by omega) (by omega)
    rw [show ((0 : Nat) : Int) = 0 from rfl, show xw K X 0 = X from rfl] at h5
    rw [h5]
    unfold qt.j6
    -- enough packets
    have hlack := H.lack (L - 1)
    have hpow : 2 ^ L = 2 ^ (L - 1) + 2 ^ (L - 1) := by
      obtain ⟨q, rfl⟩ : ∃ q, L = q + 1 := ⟨L - 1, by omega⟩
      rw [Nat.pow_succ, Nat.add_sub_cancel]; omega
    have hp1 : 1 ≤ 2 ^ (L - 1) := Nat.one_le_two_pow
    have hr2 : 2 * X.length - (xw K X (L - 1)).length ≤ 2 := by
      refine Nat.le_of_not_lt fun h3 => ?_
      have : 3 * 2 ^ (L - 1) ≤ (2 * X.length - (xw K X (L - 1)).length) * 2 ^ (L - 1) := Nat.mul_le_mul_right _ h3
      omega
    have hm : 2 * X.length - 2 ≤ (xw K X (L - 1)).length := by omega
    have hrl := (Qg K X (by omega) (by omega) hK2 (L - 1)).1
    rw [show qk (qk ((2 : Int) * (X.length : Int)) - 2) = ((2 * X.length - 2 : Nat) : Int) from by rw [qK (x := (2 : Int) * (X.length : Int)) (by omega) (by omega), qK (by omega) (by omega)]; omega,
      Qo (by omega) (by omega) (by omega), qv, qQ, Xu]
    have P := Jk x1.2.1
    have hsize := H.size (L - 1) (2 * X.length - 2) hm
    have hsz : (L - 1 + 1) * X.length ≤ 15 * 320 := Nat.mul_le_mul (by omega) (by omega)
    have htl := (List.take_sublist (2 * X.length - 2) (xw K X (L - 1))).length_le
    have hzl : ((xw K X (L - 1)).take (2 * X.length - 2)).length = 2 * X.length - 2 := by rw [List.length_take]; omega
    have hcount := fun s => H.count s (L - 1) (2 * X.length - 2) hm
    have hsyms : ∀ s ∈ zM ((xw K X (L - 1)).take (2 * X.length - 2)), ∃ j : Nat, j < often.length ∧ s = (j : Int) := by
      intro s hs
      have h1 := List.count_pos_iff.2 hs
      rw [hcount] at h1
      obtain ⟨a, ha⟩ : ∃ a, 0 < (zM (X.take a)).count s := by
        refine Classical.byContradiction fun hno => ?_
        have hz : ∀ a, (zM (X.take a)).count s = 0 := fun a => Nat.eq_zero_of_not_pos fun hp => hno ⟨a, hp⟩
        have z : ∀ as : List Nat, (as.map fun _ => 0).sum = 0 := by
          intro as
          induction as with
          | nil => rfl
          | cons a r ih => rw [List.map_cons, List.sum_cons, ih]
        simp only [hz, z] at h1
        omega
      have hmem := List.count_pos_iff.1 ha
      rw [jY X a g1] at hmem
      obtain ⟨i, hi, he⟩ := List.getElem_of_mem (List.mem_of_mem_take hmem)
      rw [xZ X g1] at hi
      obtain ⟨j, q1, q2, q3, _⟩ := P.sym i hi
      rw [List.getElem?_eq_getElem (by rw [xZ X g1]; exact hi), he] at q3
      exact ⟨j, q1, Option.some.inj q3⟩
    have h7 := U2 K often.length 4800 (by omega) (by omega) K [] ((xw K X (L - 1)).take (2 * X.length - 2)) (by omega) (by simp only [List.nil_append]; omega) (by simp only [List.nil_append]; omega) hsyms
    simp only [List.nil_append] at h7
    rw [show zM [] = [] from rfl, v8, show (([] : List PK).length : Int) = 0 from rfl] at h7
    rw [h7]
    have hk := J2 X.length (Zu (xw K X) (L - 1) (2 * X.length - 2)) (H.down _ _) (H.levle _ _ hm)
    rw [ZU H (L - 1) _ hm, u0, show L - 1 + 1 = L from by omega] at hk
    have hk2 : ((List.range X.length).map fun i => 2 ^ (L - vh (Zu (xw K X) (L - 1) (2 * X.length - 2)) i)).sum = 2 ^ L := by
      have e1 : (2 * X.length - 2) * 2 ^ (L - 1) = (X.length - 1) * 2 ^ L := by
        rw [hpow, Nat.mul_add, ← Nat.add_mul]; congr 1; omega
      have e2 : X.length * 2 ^ L = (X.length - 1) * 2 ^ L + 2 ^ L := by
        conv => lhs; rw [show X.length = (X.length - 1) + 1 from by omega, Nat.add_mul, Nat.one_mul]
      omega
    exact ⟨_, rfl, YN rfl (by omega) (by omega) hN (fun n hn => (hnn n hn).1) P x1.1 _ (by rw [u0]; omega) _ hcount hk2 (by omega)⟩
end Go.Pu

namespace Go.Pu
open Go Go.Sl Go.Mo
def u2 : List Int := (List.range 288).map fun i => if i < 144 ∨ 279 < i then 8 else if i < 256 then 9 else 7
def Qr : List Int := List.replicate 32 5
theorem X9 : zW u2 = 0 := by decide +kernel
theorem YB : zW Qr = 0 := by decide +kernel
def J8 (t : List UInt8) (c : List Int) (n : Nat) : Nat → Nat → List Int → Except Int (Nat × List Int)
  | 0, _, _ => .error (-1)
  | k + 1, p, out =>
    if out.length < n then
      match Zd c t p with
      | .error e => .error e
      | .ok (x, q) =>
        if x < 16 then J8 t c n k q (out ++ [(x : Int)])
        else if x = 16 then
          if out.length = 0 then .error 3
          else match jG t q 2 with
            | .error e => .error e
            | .ok (v, q') => if out.length + (3 + v) ≤ n then J8 t c n k q' (out ++ List.replicate (3 + v) (out.getD (out.length - 1) 0)) else .error 3
        else if x = 17 then
          match jG t q 3 with
          | .error e => .error e
          | .ok (v, q') => if out.length + (3 + v) ≤ n then J8 t c n k q' (out ++ List.replicate (3 + v) 0) else .error 3
        else
          match jG t q 7 with
          | .error e => .error e
          | .ok (v, q') => if out.length + (11 + v) ≤ n then J8 t c n k q' (out ++ List.replicate (11 + v) 0) else .error 3
    else .ok (p, out)
def KN (x : Nat × List Int) : List Int × Int := (x.2, (x.1 : Int))
end Go.Pu

namespace Go.Pu
open Go Go.Sl Go.Mo
def Kn (m : qW (List Int × Int × Int)) (s : Except Int (Nat × List Int)) : Prop :=
  match s with
  | .ok (q, out) => m = .ok (out, 0, (q : Int))
  | .error e => if e = -1 then m = .fail else ∃ p, m = .ok ([], e, p) ∧ e ≠ 0
def ordT : List Nat := [16, 17, 18, 0, 8, 7, 9, 6, 10, 5, 11, 4, 12, 3, 13, 2, 14, 1, 15]
def V3 (t : List UInt8) : Nat → Nat → Nat → List Int → Except Int (Nat × List Int)
  | 0, _, p, l => .ok (p, l)
  | m + 1, i, p, l =>
    match jG t p 3 with
    | .error e => .error e
    | .ok (v, q) => V3 t m (i + 1) q (l.set (ordT.getD i 0) (v : Int))
def VZ : List Int := List.replicate 19 0
def Kp (t : List UInt8) (K p : Nat) : Except Int (Nat × List Int × List Int) :=
  match jG t p 5 with
  | .error e => .error e
  | .ok (a, p1) =>
    match jG t p1 5 with
    | .error e => .error e
    | .ok (b, p2) =>
      match jG t p2 4 with
      | .error e => .error e
      | .ok (c, p3) =>
        if a ≤ 29 ∧ b ≤ 29 then
          match V3 t (4 + c) 0 p3 VZ with
          | .error e => .error e
          | .ok (p4, l) =>
            if l ≠ VZ ∧ zW l = 0 then
              match J8 t l (258 + a + b) K p4 [] with
              | .error e => .error e
              | .ok (p5, all) =>
                if all.getD 256 0 ≠ 0 ∧ zW (all.take (257 + a)) = 0 ∧ zW (all.drop (257 + a)) = 0 then .ok (p5, all.take (257 + a), all.drop (257 + a)) else .error 3
            else .error 3
        else .error 3
end Go.Pu

namespace Go.Pu
open Go Go.Sl Go.Mo
def KD (l : List Int) : jT := ⟨XD l, xX l 16⟩
def K8 (x : Nat × List Int × List Int) : Option jT × Option jT × Int := (some (KD x.2.1), some (KD x.2.2), (x.1 : Int))
def K6 : List Int := [16, 17, 18, 0, 8, 7, 9, 6, 10, 5, 11, 4, 12, 3, 13, 2, 14, 1, 15]
theorem uC {l : List Int} {i j : Nat} {v : Int} (h : i ≠ j) : (l.set i v).getD j 0 = l.getD j 0 := by
  simp only [List.getD_eq_getElem?_getD, List.getElem?_set_ne h]
theorem uE {l : List Int} {i : Nat} {v : Int} (h : i < l.length) : (l.set i v).getD i 0 = v := by
  simp [List.getD_eq_getElem?_getD, h]
end Go.Pu

namespace Go.Pu
open Go Go.Sl Go.Mo
def U0 (t : List UInt8) (L K p : Nat) (out : List Int) : Except Int (Nat × List Int) :=
  match Kp t K p with
  | .error e => .error e
  | .ok (q, a, b) => Yv t L a b K q out
end Go.Pu

namespace Go.Pu
open Go Go.Sl Go.Mo
def UH (t : List UInt8) (L K : Nat) (kind p : Nat) (out : List Int) : Except Int (Nat × List Int) :=
  if kind = 0 then Vu t L p out
  else if kind = 1 then Yv t L u2 Qr K p out
  else if kind = 2 then U0 t L K p out
  else .error 3
def Uw (t : List UInt8) (L K p : Nat) (out : List Int) : Except Int (Bool × Nat × List Int) :=
  match jG t p 1 with
  | .error e => .error e
  | .ok (b, p1) =>
    match jG t p1 2 with
    | .error e => .error e
    | .ok (kind, p2) =>
      match UH t L K kind p2 out with
      | .error e => .error e
      | .ok (q, o) => .ok (b == 1, q, o)
def V4 (t : List UInt8) (L K : Nat) : Nat → Nat → List Int → Except Int (Nat × List Int)
  | 0, _, _ => .error (-1)
  | k + 1, p, out =>
    match Uw t L K p out with
    | .error e => .error e
    | .ok (last, q, o) => if last then .ok (q, o) else V4 t L K k q o
def Bf (x : Bool × Nat × List Int) : Bool × Int × List Int := (x.1, (x.2.1 : Int), x.2.2)
def KE (K : Nat) (t : List UInt8) (limit : Int) : List UInt8 × Int × Int :=
  if limit < 0 ∨ 1073741824 < limit then ([], 0, 1)
  else match V4 t limit.toNat K K 0 [] with
    | .ok (q, out) => (out.map ZX, (((q + 7) / 8 : Nat) : Int), 0)
    | .error e => ([], 0, e)
def Ku (m : qW (Bool × Int × Int × List Int)) (s : Except Int (Bool × Nat × List Int)) : Prop :=
  match s with
  | .ok (b, q, out) => m = .ok (b, 0, (q : Int), out)
  | .error e => if e = -1 then m = .fail else ∃ b p out, m = .ok (b, e, p, out) ∧ e ≠ 0
end Go.Pu

namespace Go.Pu
open Go Go.Sl Go.Mo
end Go.Pu

namespace Go.Pu
open Go Go.Sl Go.Mo
def ext {β : Type} (a b : Except Int β) : Prop := a = .error 2 ∨ b = a
end Go.Pu

namespace Go.Pu
open Go Go.Sl Go.Mo
def Bj (L : Nat) (a b : Except Int (Nat × List Int)) : Prop := (a = .error 11 ∧ ∀ q o, b = .ok (q, o) → L < o.length) ∨ a = b
def Bb (L : Nat) (a b : Except Int (Bool × Nat × List Int)) : Prop := (a = .error 11 ∧ ∀ c q o, b = .ok (c, q, o) → L < o.length) ∨ a = b
end Go.Pu

namespace Go.Pu
open Go Go.Sl Go.Mo
end Go.Pu

namespace Go.Pu
open Go Go.Sl Go.Mo
def KR (B : List Int) : List Int := B ++ List.replicate (8 * ((B.length + 7) / 8) - B.length) 0
def KC (x : UInt8) : List Int := ze 8 x.toNat
def Be (B : List Int) (i : Nat) : List Int := (List.range ((B.length + 7) / 8)).map fun j => ((nB B (8 * j) (min 8 (i - 8 * j)) : Nat) : Int)
end Go.Pu

namespace Go.Pu
open Go Go.Sl Go.Mo
def good (l : List Int) (S : List Nat) : Prop := ∀ s ∈ S, s < l.length ∧ 0 < l.getD s 0
end Go.Pu

set_option maxRecDepth 100000
namespace Go.Pu
open Go Go.Sl Go.Mo
def j0 (ll dl : List Int) (t : jl) : List Int :=
  if t.Dist_ = 0 then sb ll t.Lit_.toNat
  else sb ll (um t.Len_.toNat) ++ ze (lenOf (um t.Len_.toNat)).2 (t.Len_.toNat - (lenOf (um t.Len_.toNat)).1) ++
    (sb dl (uc t.Dist_.toNat) ++ ze (yo (uc t.Dist_.toNat)).2 (t.Dist_.toNat - (yo (uc t.Dist_.toNat)).1))
def QN (ll dl : List Int) (l : List jl) : List Int := l.flatMap (j0 ll dl) ++ sb ll 256
theorem Um : (fun K w (_ : qq) s => zl.m K w w.literals_ s) = zh.m := by kernel_rfl
theorem Km : (fun K w (_ : qq) s => zl.m K w w.distances_ s) = zw.m := by kernel_rfl
theorem YM {l : List Int} {s : Nat} (hs : s < l.length) : rd (zE l) (s : Int) = (yI l s : Int) := by
  rw [yb (by rw [Ql]; exact hs)]; simp [zE]
theorem Vk {l : List Int} {s : Nat} (hs : s < l.length) : l.getD s 0 = rd l (s : Int) := by
  simp [rd, List.getD, hs]
theorem VD (K : Nat) (hK : 32 < K) (lc dc c : qq) (l : List Int) (hl : c.codes_ = zE l) (s : Nat) (hs : s < l.length) (hcod : yI l s < 1073741824) (W : qG) :
    ∀ (k n : Nat) (B : List Int), xe B → n < k → n ≤ 15 → B.length + n < 549755813888 →
    zl.l1 K ⟨W, lc, dc⟩ c (s : Int) k (B.length : Int) (x9 B) ((n : Int) - 1) = .ok (((B ++ cb n (yI l s)).length : Int), x9 (B ++ cb n (yI l s))) := by
  intro k
  induction k with
  | zero => intro n B _ h; omega
  | succ k ih =>
    intro n B h hk hn hB
    rw [zl.l1, qE]
    cases n with
    | zero => rw [if_neg (by omega)]; simp [cb]
    | succ n =>
      rw [if_pos (by omega), hl, Ql, zG hs, qv, ju (by omega), qv, YM hs, show (((n + 1 : Nat) : Int) - 1) = (n : Int) from by omega,
        yQ (by show n ≤ 64; omega)]
      have e1 : wr .u32 (xh .i64 ((yI l s / 2 ^ n : Nat) : Int) 1) = ((yI l s / 2 ^ n % 2 : Nat) : Int) := by
        have hd : yI l s / 2 ^ n ≤ yI l s := Nat.div_le_self _ _
        have := Xo (a := yI l s / 2 ^ n) (b := 1) (by omega) (by omega)
        rw [show ((1 : Nat) : Int) = 1 from rfl] at this
        rw [this, Nat.and_one_is_mod, jd (by omega) (by omega)]
      have e2 := QO K B h 1 (yI l s / 2 ^ n % 2) (by omega) (by omega) (by omega) hK lc dc
      rw [show ((1 : Nat) : Int) = 1 from rfl] at e2
      rw [e1, e2, qW.bind_ok]
      dsimp only
      rw [qK (by omega) (by omega), qQ, ih n _ (zB h (zY _ _)) (by omega) (by omega) (by rw [List.length_append, zN]; omega)]
      have e3 : ze 1 (yI l s / 2 ^ n % 2) = [((yI l s / 2 ^ n % 2 : Nat) : Int)] := by simp [ze]
      rw [e3]
      simp [cb]
theorem U3 {l : List Int} (h : zW l = 0) {s : Nat} (hs : s < l.length) : yI l s < 1073741824 := by
  have hok := xa h
  have hx := hok.2 l[s] (List.getElem_mem hs)
  obtain ⟨n, hn⟩ : ∃ n : Nat, l[s] = (n : Int) := ⟨l[s].toNat, by have := hx.1; omega⟩
  have hn15 : n ≤ 15 := by have := hx.2; omega
  by_cases h0 : n = 0
  · unfold yI; rw [xu hs, hn, if_neg (by omega)]; omega
  · have := Yj h hs hn (by omega)
    have h2 : 2 ^ n ≤ 2 ^ 15 := Nat.pow_le_pow_right (by decide) hn15
    omega
theorem Jn (K : Nat) (hK : 32 < K) (lc dc c : qq) (l : List Int) (h : zW l = 0) (hc : c = ⟨l, zE l⟩) (s : Nat) (hs : s < l.length) (B : List Int) (hB : xe B) (hBl : B.length < 274877906944) :
    zl.m K ⟨⟨⟨(B.length : Int)⟩, x9 B⟩, lc, dc⟩ c (s : Int) = .ok (((B ++ sb l s).length : Int), x9 (B ++ sb l s)) := by
  have hok := xa h
  have hx := hok.2 l[s] (List.getElem_mem hs)
  obtain ⟨n, hn⟩ : ∃ n : Nat, l[s] = (n : Int) := ⟨l[s].toNat, by have := hx.1; omega⟩
  have hn15 : n ≤ 15 := by have := hx.2; omega
  unfold zl.m
  subst hc
  dsimp only
  rw [zG hs, qv, ← Vk hs, xu hs, hn, qK (by omega) (by omega), qQ]
  have := VD K hK lc dc ⟨l, zE l⟩ l rfl s hs (U3 h hs) ⟨⟨(B.length : Int)⟩, x9 B⟩ K n B hB (by omega) hn15 (by omega)
  rw [this]
  unfold sb
  rw [xu hs, hn, Int.toNat_natCast]
theorem vG (l : List Int) (s : Nat) : xe (sb l s) := Jf _ _
theorem uf {l : List Int} (h : XG l) {s : Nat} (hs : s < l.length) : (sb l s).length ≤ 15 := by
  unfold sb
  rw [ui, xu hs]
  have hx : YP l[s] := h.2 l[s] (List.getElem_mem hs)
  unfold YP at hx
  omega
def uF (l : List jl) : Prop := ∀ t ∈ l, jx t = true ∧ 0 ≤ t.Lit_ ∧ t.Lit_ < 256
theorem uy {t : jl} (h : jx t = true) (h0 : 0 ≤ t.Lit_) (h1 : t.Lit_ < 256) : (t.Dist_ = 0 ∧ t.Len_ = 0 ∧ ∃ c : Nat, c < 256 ∧ t.Lit_ = (c : Int)) ∨ (t.Dist_ ≠ 0 ∧ ∃ n d : Nat, 3 ≤ n ∧ n ≤ 258 ∧ 1 ≤ d ∧ d ≤ 32768 ∧ t.Len_ = (n : Int) ∧ t.Dist_ = (d : Int)) := by
  unfold jx at h
  by_cases hd : t.Dist_ = 0
  · rw [if_pos hd, decide_eq_true_eq] at h
    exact .inl ⟨hd, h, t.Lit_.toNat, by omega, by omega⟩
  · rw [if_neg hd, decide_eq_true_eq] at h
    exact .inr ⟨hd, t.Len_.toNat, t.Dist_.toNat, by omega, by omega, by omega, by omega, by omega, by omega⟩
structure QR (ll dl : List Int) : Prop where
  chkL : zW ll = 0
  chkD : zW dl = 0
  lenL : 286 ≤ ll.length
  lenD : 30 ≤ dl.length
theorem JR (ll dl : List Int) (t : jl) : xe (j0 ll dl t) := by
  unfold j0
  split
  · exact vG _ _
  · exact zB (zB (vG _ _) (zY _ _)) (zB (vG _ _) (zY _ _))
theorem Qz {n : Nat} (h1 : 3 ≤ n) (h2 : n ≤ 258) : UO n (um n) (n - (lenOf (um n)).1) := by
  obtain ⟨s, e, h, _⟩ := vK 301 n h1 h2 (by decide)
  have h0 := h.eq
  subst h0
  have : e = n - (lenOf (um n)).1 := by have := h.sum; omega
  subst this; exact h
theorem QA {n : Nat} (h1 : 1 ≤ n) (h2 : n ≤ 32768) : UI n (uc n) (n - (yo (uc n)).1) := by
  obtain ⟨s, e, h, _⟩ := jR 40000 n h1 h2 (by decide)
  have h0 := h.eq
  subst h0
  have : e = n - (yo (uc n)).1 := by have := h.sum; omega
  subst this; exact h
theorem YX {ll dl : List Int} (C : QR ll dl) {t : jl} (h : jx t = true) (h0 : 0 ≤ t.Lit_) (h1 : t.Lit_ < 256) : (j0 ll dl t).length ≤ 48 := by
  have hl := C.lenL; have hd := C.lenD
  unfold j0
  rcases uy h h0 h1 with ⟨e1, _, c, hc, e2⟩ | ⟨e1, n, d, n1, n2, d1, d2, e2, e3⟩
  · rw [if_pos e1, e2, Int.toNat_natCast]
    have := uf (xa C.chkL) (s := c) (by omega); omega
  · rw [if_neg e1, e2, e3, Int.toNat_natCast, Int.toNat_natCast]
    have L := Qz n1 n2
    have D := QA d1 d2
    have := uf (xa C.chkL) (s := um n) (by have := L.hi; omega)
    have := uf (xa C.chkD) (s := uc d) (by have := D.hi; omega)
    have := L.small; have := D.small
    simp only [List.length_append, zN]; omega
theorem Yc (K : Nat) (hK : 40000 ≤ K) (ll dl : List Int) (C : QR ll dl) (l : List jl) (hl : l.length < 1000000000) : ∀ (k : Nat) (D T : List jl) (B : List Int), D ++ T = l → uF T → T.length < k → xe B → B.length + 48 * T.length < 137438953472 → ∀ W,
    qS.l1 K ⟨W, ⟨ll, zE ll⟩, ⟨dl, zE dl⟩⟩ l k (B.length : Int) (x9 B) (D.length : Int) = .ok (((B ++ QN ll dl T).length : Int), x9 (B ++ QN ll dl T)) := by
  intro k
  induction k with
  | zero => intro D T B _ _ h; omega
  | succ k ih =>
    intro D T B h1 h2 h3 hB hBl W
    have hlen : D.length + T.length = l.length := by rw [← h1]; simp
    have hlL := C.lenL; have hlD := C.lenD
    rw [qS.l1, qE]
    cases T with
    | nil =>
      rw [if_neg (by simp only [List.length_nil] at hlen; omega)]
      unfold qS.j2
      have hs := Jn K (by omega) ⟨ll, zE ll⟩ ⟨dl, zE dl⟩ ⟨ll, zE ll⟩ ll C.chkL rfl 256 (by omega) B hB (by simp only [List.length_nil] at hBl; omega)
      rw [show ((256 : Nat) : Int) = 256 from rfl] at hs
      rw [← Um]
      dsimp only
      rw [hs, qW.bind_ok]
      simp [QN]
    | cons t T =>
      simp only [List.length_cons] at h3 hlen hBl
      have ht := h2 t (by simp)
      have hrd : rd l (D.length : Int) = t := by rw [← h1]; exact x8 _ _ _ rfl
      have hw : qk ((D.length : Int) + 1) = ((D ++ [t]).length : Int) := by rw [qK (by omega) (by omega)]; simp
      have hgo : ∀ W, qS.l1 K ⟨W, ⟨ll, zE ll⟩, ⟨dl, zE dl⟩⟩ l k ((B ++ j0 ll dl t).length : Int) (x9 (B ++ j0 ll dl t)) ((D ++ [t]).length : Int) = .ok (((B ++ QN ll dl (t :: T)).length : Int), x9 (B ++ QN ll dl (t :: T))) := by
        intro W
        have htl := YX C ht.1 ht.2.1 ht.2.2
        rw [ih (D ++ [t]) T (B ++ j0 ll dl t) (by rw [← h1]; simp) (fun u hu => h2 u (by simp [hu])) (by omega) (zB hB (JR _ _ _)) (by rw [List.length_append]; omega) W]
        simp [QN]
      rw [if_pos (by omega), zG (by omega), qv, hrd, xz, hw]
      rcases uy ht.1 ht.2.1 ht.2.2 with ⟨e1, _, c, hc, e2⟩ | ⟨e1, n, d, n1, n2, d1, d2, e2, e3⟩
      · rw [if_pos e1, e2, ZZ (by omega) (by omega), ← Um]
        dsimp only
        rw [Jn K (by omega) _ _ _ ll C.chkL rfl c (by omega) B hB (by omega), qW.bind_ok]
        have : j0 ll dl t = sb ll c := by unfold j0; rw [if_pos e1, e2, Int.toNat_natCast]
        rw [this] at hgo
        exact hgo W
      · have L := Qz n1 n2
        have Dd := QA d1 d2
        have hLhi := L.hi; have hDhi := Dd.hi; have hLs := L.small; have hDs := Dd.small
        obtain ⟨s, e, Ls, hp⟩ := vK K n n1 n2 (by omega)
        obtain ⟨s', e', Ds, hp'⟩ := jR K d d1 d2 (by omega)
        have q1 : um n = s := Ls.eq
        have q2 : uc d = s' := Ds.eq
        have q3 : e = n - (lenOf (um n)).1 := by rw [q1]; have := Ls.sum; omega
        have q4 : e' = d - (yo (uc d)).1 := by rw [q2]; have := Ds.sum; omega
        rw [if_neg e1, e2, e3, hp, qW.bind_ok]
        dsimp only
        unfold xp.m xm.m
        rw [← Um, ← Km]
        dsimp only
        have b1 := uf (xa C.chkL) (s := s) (by omega)
        have b2 := uf (xa C.chkD) (s := s') (by omega)
        rw [Jn K (by omega) _ _ _ ll C.chkL rfl s (by omega) B hB (by omega), qW.bind_ok]
        dsimp only
        rw [QO K _ (zB hB (vG _ _)) _ e (by have := Ls.small; omega) Ls.bits (by have := Ls.small; rw [List.length_append]; omega) (by omega), qW.bind_ok, qW.bind_ok]
        dsimp only
        rw [hp', qW.bind_ok]
        dsimp only
        rw [Jn K (by omega) _ _ _ dl C.chkD rfl s' (by omega) _ (zB (zB hB (vG _ _)) (zY _ _)) (by have := Ls.small; simp only [List.length_append, zN]; omega), qW.bind_ok]
        dsimp only
        rw [QO K _ (zB (zB (zB hB (vG _ _)) (zY _ _)) (vG _ _)) _ e' (by have := Ds.small; omega) Ds.bits (by have := Ls.small; have := Ds.small; simp only [List.length_append, zN]; omega) (by omega), qW.bind_ok, qW.bind_ok]
        dsimp only
        have : j0 ll dl t = sb ll s ++ ze (lenOf s).2 e ++ (sb dl s' ++ ze (yo s').2 e') := by
          unfold j0; rw [if_neg e1, e2, e3, Int.toNat_natCast, Int.toNat_natCast, q3, q4, q1, q2]
        rw [this] at hgo
        simp only [← List.append_assoc] at hgo
        exact hgo W
end Go.Pu

set_option maxRecDepth 100000
namespace Go.Pu
open Go Go.Sl Go.Mo
def U1 (last n : Nat) : List UInt8 := [UInt8.ofNat last, UInt8.ofNat (n % 256), UInt8.ofNat (n / 256), UInt8.ofNat (255 - n % 256), UInt8.ofNat (255 - n / 256)]
def YU : Nat → List UInt8 → List UInt8
  | 0, _ => []
  | k + 1, s => if s.length ≤ 65535 then U1 1 s.length ++ s else U1 0 65535 ++ s.take 65535 ++ YU k (s.drop 65535)
theorem Yf {n : Nat} (h : n < 256) : vz .u8 (n : Int) = ((255 - n : Nat) : Int) := by
  have : ∀ n : Fin 256, vz .u8 ((n.val : Nat) : Int) = ((255 - n.val : Nat) : Int) := by decide
  exact this ⟨n, h⟩
theorem Z8 (n : Nat) : wr .u8 (n : Int) = ((n % 256 : Nat) : Int) := by rw [UV]; rfl
theorem KL (last n : Nat) (hl : last ≤ 1) (hn : n ≤ 65535) :
    ([(last : Int), wr .u8 (n : Int), wr .u8 (zR .i64 (n : Int) 8), vz .u8 (wr .u8 (n : Int)), vz .u8 (wr .u8 (zR .i64 (n : Int) 8))] : List Int) = (U1 last n).map vA := by
  have h8 : zR .i64 (n : Int) 8 = ((n / 256 : Nat) : Int) := yQ (n := 8) (by decide)
  have hd : n / 256 < 256 := by omega
  rw [h8, Z8, Z8, Nat.mod_eq_of_lt hd, Yf (by omega), Yf hd]
  simp only [U1, List.map_cons, List.map_nil]
  rw [jB (by omega), jB (by omega), jB hd, jB (by omega), jB (by omega)]
theorem VQ (m : Nat) : (if (m : Int) < (65535 : Int) then (m : Int) else (65535 : Int)) = ((min m 65535 : Nat) : Int) := by
  by_cases h : (m : Int) < (65535 : Int)
  · rw [if_pos h, Nat.min_eq_left (by omega)]
  · rw [if_neg h, Nat.min_eq_right (by omega)]; rfl
theorem ZI (a b : Nat) : (U1 a b).length = 5 := rfl
theorem Vb (s b h : List UInt8) (n : Nat) (g : List UInt8 → List Int → qW (List UInt8)) (last : Int) (hh : h.length = 5) (hn : n ≤ s.length) (hb : b.length + s.length + 5 ≤ 70368744177664) :
    (chk (room ((b.map vA).length + (h.map vA).length) 1) <| lt (b.map vA ++ h.map vA) fun zs1 => chk (subok 0 (n : Int) s.length) <| chk (room (zs1.length + (sub s 0 (n : Int)).length) 1) <|
      lt (zs1 ++ (sub s 0 (n : Int)).map vA) fun zs2 => chk (subok (n : Int) (s.length : Int) s.length) <| lt (sub s (n : Int) (s.length : Int)) fun s2 => cond (last == 1) (lt (zs2.map ZX) fun v => .ok v) (g s2 zs2)) =
    if last = 1 then .ok (b ++ h ++ s.take n) else g (s.drop n) ((b ++ h ++ s.take n).map vA) := by
  have hl : (s.take n).length = n := by rw [List.length_take]; omega
  rw [xF (by simp only [List.length_map]; omega), qv, qQ, Qo (by omega) (by omega) (by omega), qv, Xu, xF (by simp only [List.length_append, List.length_map]; omega), qv, qQ,
    Qo (by omega) (by omega) (by omega), qv, J9, qQ, xz, qQ]
  simp only [← List.map_append, XC]
theorem JI (K : Nat) : ∀ (k : Nat) (s : List UInt8) (b : List UInt8), s.length < 65535 * k → b.length + s.length + 5 * k ≤ 70368744177664 →
    zi.l1 K k s (b.map vA) = .ok (b ++ YU k s)
  | 0, s, b, h, _ => by omega
  | k + 1, s, b, h, hb => by
    rw [zi.l1, qQ, VQ]
    by_cases hs : s.length ≤ 65535
    · rw [Nat.min_eq_left hs, beq_self_eq_true, cond_true]
      unfold zi.j2
      rw [show (1 : Int) = ((1 : Nat) : Int) from rfl, KL 1 s.length (by omega) hs, show ((1 : Nat) : Int) = 1 from rfl, Vb s b _ _ _ _ (ZI _ _) (Nat.le_refl _) (by omega), if_pos rfl]
      simp only [YU, if_pos hs, List.take_length, List.append_assoc]
    · have hne : (((65535 : Nat) : Int) == (s.length : Int)) = false := by simp only [beq_eq_false_iff_ne]; omega
      rw [Nat.min_eq_right (by omega), hne, cond_false]
      unfold zi.j2
      rw [show (0 : Int) = ((0 : Nat) : Int) from rfl, KL 0 65535 (by omega) (by omega), show ((0 : Nat) : Int) = 0 from rfl, Vb s b _ _ _ _ (ZI _ _) (by omega) (by omega), if_neg (by omega),
        JI K k _ _ (by rw [List.length_drop]; omega) (by simp only [List.length_append, ZI, List.length_take, List.length_drop]; omega)]
      simp only [YU, if_neg hs, List.append_assoc]
theorem Zm (K : Nat) (s : List UInt8) (h : s.length < 65535 * K) (hb : s.length + 5 * K ≤ 70368744177664) : zi.m K s = .ok (YU K s) := by
  have := JI K K s [] h (by simpa using hb)
  simpa [zi.m] using this
theorem Js (m : Nat) : xH.m (m + 1000) [⟨97, 0, 0⟩] = .ok ([75, 4, 0], 0) := by kernel_rfl
theorem JT (m : Nat) : qh.m (m + 1000) [⟨0, 1, 0⟩] = .ok ([], 1) := by kernel_rfl
theorem Y9 (m : Nat) : zp.m (m + 1000) [] = .ok [3, 0] := by kernel_rfl
theorem Uz (K : Nat) (hK : 1000 ≤ K) : zL.m K = .ok true := by
  obtain ⟨m, rfl⟩ : ∃ m, K = m + 1000 := ⟨K - 1000, by omega⟩
  unfold zL.m
  rw [Js, JT, Y9, show zi.m (m + 1000) [] = .ok [1, 0, 0, 255, 255] from by kernel_rfl]
  rfl
end Go.Pu

set_option maxRecDepth 100000
namespace Go.Pu
open Go Go.Sl Go.Mo
theorem Kv : QR u2 Qr := ⟨X9, YB, by decide, by decide⟩
theorem ZS (m : Nat) : qN.m (m + 300) = qN.j4 (m + 300) u2 Qr := by kernel_rfl
theorem jD (K : Nat) (l : List Int) (hK : 320 < K) (h : zW l = 0) : xo.m K l = .ok (zE l) := by
  unfold xo.m
  rw [Y0 K l hK, if_pos h]; rfl
theorem Xb (K : Nat) (hK : 1000 < K) : qN.m K = .ok (u2, zE u2, Qr, zE Qr) := by
  obtain ⟨m, rfl⟩ : ∃ m, K = m + 300 := ⟨K - 300, by omega⟩
  rw [ZS]
  unfold qN.j4
  rw [jD _ _ (by omega) X9, qW.bind_ok, jD _ _ (by omega) YB]; rfl
theorem Ja (K : Nat) (told : Nat) (ht : told ≤ 2) : ∀ (j n k : Nat), n < j → n < 1048576 → k + n < 2097152 → ∃ r : Nat, r ≤ k + n ∧ xj.l1 K (told : Int) j (n : Int) (k : Int) = .ok (r : Int) := by
  intro j
  induction j with
  | zero => intro n k h; omega
  | succ j ih =>
    intro n k h1 h2 h3
    have hpt : 2 ^ told ≤ 2 ^ 2 := Nat.pow_le_pow_right (by decide) ht
    have hpt1 : 1 ≤ 2 ^ told := Nat.one_le_two_pow
    have e2 : zV .i64 2 (told : Int) = ((2 * 2 ^ told : Nat) : Int) := by
      have := jA (a := 2) (n := told) (by omega) (by omega)
      rw [show ((2 : Nat) : Int) = 2 from rfl] at this
      rw [this]
    rw [xj.l1, ju (by omega), qv, e2, qE]
    by_cases hc : 2 * 2 ^ told ≤ n
    · have e3 : zR .i64 (n : Int) 1 = ((n / 2 : Nat) : Int) := by
        have := yQ (k := .i64) (a := n) (n := 1) (by decide)
        rw [show ((1 : Nat) : Int) = 1 from rfl] at this
        rw [this]
      rw [if_pos (by omega), e3, qQ, qQ, show qk ((k : Int) + 1) = ((k + 1 : Nat) : Int) from by rw [qK (by omega) (by omega)]; rfl]
      obtain ⟨r, h4, h5⟩ := ih (n / 2) (k + 1) (by omega) (by omega) (by omega)
      exact ⟨r, by omega, h5⟩
    · rw [if_neg (by omega)]
      exact ⟨k, by omega, rfl⟩
theorem Xw (K : Nat) (n told : Nat) (ht : told ≤ 2) (hn : n < 1048576) (hK : n < K) : ∃ r : Nat, r ≤ n ∧ xj.m K (n : Int) (told : Int) = .ok (r : Int) := by
  obtain ⟨r, h1, h2⟩ := Ja K told ht K n 0 hK hn (by omega)
  exact ⟨r, by omega, h2⟩
theorem Qc (K : Nat) (n : Nat) (h1 : 3 ≤ n) (h2 : n ≤ 258) (hK : 300 < K) : ∃ r : Nat, r ≤ 300 ∧ xO.m K (n : Int) = .ok (r : Int) := by
  unfold xO.m
  rw [qQ, xz]
  by_cases h : (n : Int) = 258
  · rw [if_pos h]; exact ⟨8, by omega, rfl⟩
  · rw [if_neg h, qQ, qE, show qk ((n : Int) - 3) = ((n - 3 : Nat) : Int) from by rw [qK (by omega) (by omega)]; omega]
    obtain ⟨r, h3, h4⟩ := Xw K (n - 3) 2 (by omega) (by omega) (by omega)
    rw [show ((2 : Nat) : Int) = 2 from rfl] at h4
    rw [h4]
    split
    · exact ⟨8 + r, by omega, by rw [qW.bind_ok, qQ, qK (by omega) (by omega)]; rfl⟩
    · exact ⟨7 + r, by omega, by rw [qW.bind_ok, qQ, qK (by omega) (by omega)]; rfl⟩
theorem Jo (K : Nat) (hK : 40000 ≤ K) (l : List jl) (hl : l.length < 1000000000) : ∀ (k : Nat) (D T : List jl) (n : Nat), D ++ T = l → T.length < k → n ≤ 7 + 40000 * D.length →
    ∃ c : Int, xc.l1 K l k (n : Int) (D.length : Int) = .ok (c, if T.all jx = true then 0 else 1) := by
  intro k
  induction k with
  | zero => intro D T n _ h; omega
  | succ k ih =>
    intro D T n h1 h2 h3
    have hlen : D.length + T.length = l.length := by rw [← h1]; simp
    rw [xc.l1, qE]
    cases T with
    | nil => rw [if_neg (by simp only [List.length_nil] at hlen; omega)]; exact ⟨_, rfl⟩
    | cons t T =>
      simp only [List.length_cons] at h2 hlen
      have hrd : rd l (D.length : Int) = t := by rw [← h1]; exact x8 _ _ _ rfl
      have hw : qk ((D.length : Int) + 1) = ((D ++ [t]).length : Int) := by rw [qK (by omega) (by omega)]; simp
      rw [if_pos (by omega), zG (by omega), qv, hrd, show (qp.mk t.Lit_ t.Len_ t.Dist_) = t from rfl, VX, qW.bind_ok, qQ, hw, List.all_cons]
      have go : ∀ m : Nat, m ≤ n + 40000 → ∃ c : Int, xc.l1 K l k (m : Int) ((D ++ [t]).length : Int) = .ok (c, if T.all jx = true then 0 else 1) := fun m hm =>
        ih (D ++ [t]) T m (by rw [← h1]; simp) (by omega) (by simp only [List.length_append, List.length_cons, List.length_nil]; omega)
      cases hb : jx t with
      | false => exact ⟨0, by simp⟩
      | true =>
        rw [Bool.not_true, cond_false, Bool.true_and]
        have g8 : qk ((n : Int) + 8) = ((n + 8 : Nat) : Int) := by rw [qK (by omega) (by omega)]; rfl
        have g9 : qk ((n : Int) + 9) = ((n + 9 : Nat) : Int) := by rw [qK (by omega) (by omega)]; rfl
        rw [qQ, qQ, qQ, qQ, g8, g9]
        by_cases hd : t.Dist_ = 0
        · have hd' : (t.Dist_ == 0) = true := by simpa using hd
          rw [hd', Bool.true_and, cond_true]
          cases decide (t.Lit_ < 144) with
          | true => exact go (n + 8) (by omega)
          | false => exact go (n + 9) (by omega)
        · have hd' : (t.Dist_ == 0) = false := by simpa using hd
          rw [hd', Bool.false_and, cond_false, cond_false]
          unfold jx at hb
          rw [if_neg hd, decide_eq_true_eq] at hb
          obtain ⟨a, ha⟩ : ∃ a : Nat, t.Len_ = (a : Int) := ⟨t.Len_.toNat, by omega⟩
          obtain ⟨d, hd2⟩ : ∃ d : Nat, t.Dist_ = (d : Int) := ⟨t.Dist_.toNat, by omega⟩
          obtain ⟨r1, p1, p2⟩ := Qc K a (by omega) (by omega) (by omega)
          obtain ⟨r2, p3, p4⟩ := Xw K (d - 1) 1 (by omega) (by omega) (by omega)
          rw [show ((1 : Nat) : Int) = 1 from rfl] at p4
          rw [ha, p2, qW.bind_ok, hd2, show qk ((d : Int) - 1) = ((d - 1 : Nat) : Int) from by rw [qK (by omega) (by omega)]; omega, p4, qW.bind_ok, qQ,
            show qk ((n : Int) + qk (qk ((r1 : Int) + 5) + (r2 : Int))) = ((n + (r1 + 5 + r2) : Nat) : Int) from by
              rw [qK (x := (r1 : Int) + 5) (by omega) (by omega), qK (x := (r1 : Int) + 5 + _) (by omega) (by omega), qK (by omega) (by omega)]; omega]
          exact go _ (by omega)
theorem ZT (K : Nat) (hK : 40000 ≤ K) (l : List jl) (hl : l.length < 1000000000) (hlK : l.length < K) : yi.m K l = .ok (l.all jx) := by
  unfold yi.m
  obtain ⟨c, h⟩ := Jo K hK l hl K [] l 7 rfl hlK (by simp)
  rw [show ((7 : Nat) : Int) = 7 from rfl, show (([] : List jl).length : Int) = 0 from rfl] at h
  unfold xc.m
  rw [h, qW.bind_ok]
  dsimp only
  rw [qQ]
  cases l.all jx <;> rfl
def Zg (l : List jl) : List Int := ze 3 3 ++ QN u2 Qr l
def Jh (l : List jl) : Prop := ∀ t ∈ l, 0 ≤ t.Lit_ ∧ t.Lit_ < 256
theorem XB {l : List jl} (h : Jh l) (h2 : l.all jx = true) : uF l := fun t ht => ⟨List.all_eq_true.1 h2 t ht, h t ht⟩
theorem Yd (K : Nat) (W : qn) (B : List Int) (h : W.Writer_.bytes_ = x9 B) : zt.m K W = .ok (xW B) := by
  unfold zt.m
  rw [h, YG, qQ]
theorem Xh (K : Nat) (hK : 40000 ≤ K) (l : List jl) (hl : l.length < 1000000000) (hlK : l.length < K) (hb : Jh l) : xH.m K l = if l.all jx = true then .ok (xW (Zg l), 0) else .ok ([], 1) := by
  unfold xH.m
  rw [ZT K hK l hl hlK, qW.bind_ok]
  cases h : l.all jx with
  | false => rfl
  | true =>
    have hg := XB hb h
    have h3 := QO K [] (fun b hb => by cases hb) 3 3 (by decide) (by decide) (by decide) (by omega) ⟨u2, zE u2⟩ ⟨Qr, zE Qr⟩
    rw [show x9 [] = [] from rfl, show ((3 : Nat) : Int) = 3 from rfl, show (([] : List Int).length : Int) = 0 from rfl] at h3
    rw [Bool.not_true, cond_false, Xb K (by omega), qW.bind_ok]
    dsimp only
    rw [h3, qW.bind_ok]
    dsimp only
    unfold qS.m
    have ht := Yc K hK u2 Qr Kv l hl K [] l (ze 3 3) rfl hg hlK (zY _ _) (by rw [zN]; omega) ⟨⟨((ze 3 3).length : Int)⟩, x9 (ze 3 3)⟩
    rw [show (([] : List jl).length : Int) = 0 from rfl] at ht
    rw [List.nil_append, ht, qW.bind_ok]
    dsimp only
    rw [Yd K _ (ze 3 3 ++ QN u2 Qr l) rfl]
    rfl
end Go.Pu

set_option maxRecDepth 100000
namespace Go.Pu
open Go Go.Sl Go.Mo
theorem Z3 {B : List Int} (h : xe B) (p : Nat) : ∀ n, p + n ≤ B.length → Ke (xW B) p n = nB B p n
  | 0, _ => rfl
  | n + 1, hn => by
    rw [Ke, nB, Z3 h p n (by omega), Q3 h (by omega)]
    rcases uZ h (p + n) with e | e <;> rw [e] <;> rfl
structure At (t : List UInt8) (A C : List Int) : Prop where
  eq : t = xW (A ++ C)
  b01 : xe (A ++ C)
theorem XM {A C : List Int} (h : xe (A ++ C)) : xe A := fun b hb => h b (List.mem_append_left _ hb)
theorem uH {A C : List Int} (h : xe (A ++ C)) : xe C := fun b hb => h b (List.mem_append_right _ hb)
theorem At.go {t : List UInt8} {A X C : List Int} (h : At t A (X ++ C)) : At t (A ++ X) C := ⟨by rw [h.eq, List.append_assoc], by rw [List.append_assoc]; exact h.b01⟩
theorem At.bits {t : List UInt8} {A C : List Int} {n v : Nat} (h : At t A (ze n v ++ C)) (hv : v < 2 ^ n) : jG t A.length n = .ok (v, (A ++ ze n v).length) := by
  have hl : (A ++ (ze n v ++ C)).length = A.length + (n + C.length) := by rw [List.length_append, List.length_append, zN]
  unfold jG
  rw [h.eq, uu, hl, if_pos (by omega), Z3 h.b01 _ _ (by rw [hl]; omega)]
  have h1 := XP A (ze n v ++ C) 0 n
  rw [Nat.add_zero] at h1
  rw [h1, Q5, Nat.mod_eq_of_lt hv, List.length_append, zN]
theorem At.sym {t : List UInt8} {A C l : List Int} {s : Nat} (h : At t A (sb l s ++ C)) (hc : zW l = 0) (hs : s < l.length) (hp : 0 < l.getD s 0) : Zd l t A.length = .ok (s, (A ++ sb l s).length) := by
  have hl : l.getD s 0 = l[s] := xu hs
  rw [hl] at hp
  have h2 := XZ hc (A := A) (C := C) (s := s) (n := (l[s]).toNat) (XM h.b01) (uH (uH h.b01)) hs (by omega) (by omega)
  rw [h.eq, ← List.append_assoc, h2, List.length_append, sb, ui, hl]
def vB : List jl → List Int → Option (List Int)
  | [], out => some out
  | t :: T, out => if t.Dist_ = 0 then vB T (out ++ [t.Lit_]) else if t.Dist_.toNat ≤ out.length then vB T (Xc t.Len_.toNat t.Dist_.toNat out) else none
def XH (ll dl : List Int) (t : jl) : Prop := if t.Dist_ = 0 then 0 < ll.getD t.Lit_.toNat 0 else 0 < ll.getD (um t.Len_.toNat) 0 ∧ 0 < dl.getD (uc t.Dist_.toNat) 0
end Go.Pu

set_option maxRecDepth 100000
namespace Go.Pu
open Go Go.Sl Go.Mo
def ua (l : List Int) : Nat := (l.filter fun x => x != 0).length
theorem Uk (l : List Int) : ua l ≤ l.length := List.length_filter_le ..
theorem Yw (a b : List Int) : ua (a ++ b) = ua a + ua b := by simp [ua]
theorem Yg (x : Int) : ua [x] = if x = 0 then 0 else 1 := by
  by_cases h : x = 0 <;> simp [ua, h]
theorem J7 (x : Int) (l : List Int) : ua (x :: l) = (if x = 0 then 0 else 1) + ua l := by
  rw [← Yg, ← Yw]; rfl
def yP : Nat → List Int → List Int
  | _, [] => []
  | n, x :: T => if n < 2 then (if x = 0 then 1 :: yP (n + 1) T else x :: yP n T) else x :: T
theorem y5 : ∀ (T : List Int) (n : Nat), (yP n T).length = T.length
  | [], n => rfl
  | x :: T, n => by
    rw [yP]; split
    · split <;> simp [y5 T]
    · rfl
theorem X0 (n : Nat) (h : 2 ≤ n) (T : List Int) : yP n T = T := by
  cases T with
  | nil => rfl
  | cons x T => rw [yP, if_neg (by omega)]
theorem uk : ∀ (T : List Int) (n j : Nat), T.getD j 0 ≠ 0 → (yP n T).getD j 0 = T.getD j 0
  | [], n, j, h => by simp at h
  | x :: T, n, 0, h => by
    rw [List.getD_cons_zero] at h
    rw [yP]; split
    · simp [h]
    · rfl
  | x :: T, n, j + 1, h => by
    rw [List.getD_cons_succ] at h
    rw [yP]; split
    · split
      · rw [List.getD_cons_succ, List.getD_cons_succ]; exact uk T _ j h
      · rw [List.getD_cons_succ, List.getD_cons_succ]; exact uk T _ j h
    · rfl
theorem uz : ∀ (T : List Int) (n : Nat), ∀ x ∈ yP n T, x = 1 ∨ x ∈ T
  | [], n, x, h => by simp [yP] at h
  | y :: T, n, x, h => by
    rw [yP] at h
    split at h
    · split at h
      · rcases List.mem_cons.1 h with h | h
        · exact .inl h
        · exact (uz T _ x h).imp id (List.mem_cons_of_mem _)
      · rcases List.mem_cons.1 h with h | h
        · exact .inr (h ▸ List.mem_cons_self ..)
        · exact (uz T _ x h).imp id (List.mem_cons_of_mem _)
    · exact .inr h
theorem Jm (K : Nat) (often : List Int) (hb : ∀ n ∈ often, 0 ≤ n) (hl : often.length ≤ 320) : ∀ (k : Nat) (D T : List Int), D ++ T = often → T.length < k →
    qL.l1 K often k ((ua D : Nat) : Int) (D.length : Int) = qL.j2 K often ((ua often : Nat) : Int) := by
  intro k
  induction k with
  | zero => intro D T _ h; omega
  | succ k ih =>
    intro D T h1 h2
    have hlen : D.length + T.length = often.length := by rw [← h1]; simp
    have hnz := Uk D
    rw [qL.l1, qE]
    cases T with
    | nil =>
      rw [if_neg (by simp only [List.length_nil] at hlen; omega), ← h1, List.append_nil]
    | cons x T =>
      simp only [List.length_cons] at hlen h2
      rw [if_pos (by omega), zG (by omega), qv, qQ, qQ]
      have e1 : rd often (D.length : Int) = x := by rw [← h1, x8 _ _ _ rfl]
      have hx : 0 ≤ x := hb x (by rw [← h1]; simp)
      have e2 : qk (((ua D : Nat) : Int) + (if (1 : Int) < x then (1 : Int) else x)) = ((ua (D ++ [x]) : Nat) : Int) := by
        rw [Yw, Yg]
        by_cases h0 : x = 0
        · rw [if_pos h0, if_neg (by omega), qK (by omega) (by omega)]; omega
        · rw [if_neg h0]
          split
          · rw [qK (by omega) (by omega)]; omega
          · rw [qK (by omega) (by omega)]; omega
      have e3 : qk ((D.length : Int) + 1) = ((D ++ [x]).length : Int) := by rw [qK (by omega) (by omega)]; simp
      rw [e1, e2, e3]
      exact ih (D ++ [x]) T (by rw [← h1]; simp) (by omega)
theorem VW (K : Nat) : ∀ (k : Nat) (T D : List Int), T.length < k → (D ++ T).length ≤ 320 → 2 ≤ (D ++ T).length →
    qL.l3 K k (D ++ T) ((D.length + ua T : Nat) : Int) (D.length : Int) = qL.j4 K (D ++ yP (D.length + ua T) T) := by
  intro k
  induction k with
  | zero => intro T D h; omega
  | succ k ih =>
    intro T D h2 hl h3
    rw [qL.l3, qE]
    cases T with
    | nil =>
      rw [List.append_nil] at h3
      rw [if_neg (by omega)]; rfl
    | cons x T =>
      simp only [List.length_cons] at h2
      rw [List.length_append, List.length_cons] at hl h3
      by_cases h : D.length + ua (x :: T) < 2
      · rw [if_pos (by omega), yd _ _ _ rfl, qv, x8 _ _ _ rfl, yP, if_pos h, xz]
        have e3 : qk ((D.length : Int) + 1) = ((D ++ [x]).length : Int) := by rw [qK (by omega) (by omega)]; simp
        have hn := J7 x T
        by_cases h0 : x = 0
        · rw [if_pos h0, if_pos h0, qQ, qQ, qQ]
          have e4 : qk ((x : Int) + 1) = 1 := by rw [h0]; rfl
          have e5 : qk (((D.length + ua (x :: T) : Nat) : Int) + 1) = (((D ++ [(1 : Int)]).length + ua T : Nat) : Int) := by
            rw [qK (by omega) (by omega), hn, if_pos h0]; simp; omega
          have e6 : qk ((D.length : Int) + 1) = ((D ++ [(1 : Int)]).length : Int) := by rw [qK (by omega) (by omega)]; simp
          have := ih T (D ++ [1]) (by omega) (by simp; omega) (by simp; omega)
          rw [e4, jS _ _ _ _ rfl, e5, e6]
          rw [show D ++ 1 :: T = (D ++ [1]) ++ T by simp, this]
          rw [show (D ++ [(1 : Int)]).length + ua T = D.length + ua (x :: T) + 1 by rw [hn, if_pos h0]; simp; omega]
          simp
        · rw [if_neg h0, if_neg h0, qQ, e3]
          have e5 : ((D.length + ua (x :: T) : Nat) : Int) = (((D ++ [x]).length + ua T : Nat) : Int) := by
            rw [hn, if_neg h0]; simp; omega
          have := ih T (D ++ [x]) (by omega) (by simp; omega) (by simp; omega)
          rw [e5]
          rw [show D ++ x :: T = (D ++ [x]) ++ T by simp, this]
          rw [show (D ++ [x]).length + ua T = D.length + ua (x :: T) by rw [hn, if_neg h0]; simp; omega]
          simp
      · rw [if_neg (by omega), X0 _ (by omega)]
structure Vg (often l : List Int) : Prop where
  len : l.length = often.length
  chk : zW l = 0
  has : ∀ j : Nat, 0 < often.getD j 0 → 0 < l.getD j 0
theorem Yq (K : Nat) (often : List Int) (hK : 6000 ≤ K) (hK2 : (1099511627776 : Nat) > K) (h2 : 2 ≤ often.length) (hl : often.length ≤ 320) (hb : ∀ n ∈ often, 0 ≤ n ∧ n ≤ 1099511627776) :
    ∃ l o, qL.m K often = .ok (l, o) ∧ Vg often l := by
  unfold qL.m
  have h1 := Jm K often (fun n hn => (hb n hn).1) hl K [] often rfl (by omega)
  have h3 := VW K K often [] (by omega) (by simpa using hl) (by simpa using h2)
  simp only [List.nil_append, List.length_nil, Nat.zero_add] at h3
  obtain ⟨l, hl1, hl2⟩ := Xs K (yP (ua often) often) 15 hK hK2 ⟨by decide, by decide, by rw [y5]; exact hl, fun n hn => by
    rcases uz _ _ n hn with h | h
    · subst h; decide
    · exact hb n h, by have := uV (yP (ua often) often) 0; rw [y5] at this; exact Nat.le_trans this (Nat.le_trans hl (by decide))⟩
  refine ⟨l, yP (ua often) often, ?_, ⟨by rw [hl2.len, y5], hl2.chk, fun j hj => ?_⟩⟩
  · refine h1.trans ?_
    unfold qL.j2
    refine h3.trans ?_
    unfold qL.j4
    rw [hl1]; rfl
  · have hg := uk often (ua often) j (by omega)
    have hj2 : j < often.length := by
      refine Nat.lt_of_not_le fun hge => ?_
      rw [List.getD_eq_getElem?_getD, List.getElem?_eq_none hge] at hj
      simp at hj
    have hz := hl2.zero j (by rw [y5]; exact hj2)
    have hr := hl2.rng j (by rw [y5]; exact hj2)
    rw [jX] at hz hr
    rw [jX, hg] at hz
    have : l.getD j 0 ≠ 0 := fun e => by have := hz.1 e; omega
    omega
end Go.Pu

set_option maxRecDepth 100000
namespace Go.Pu
open Go Go.Sl Go.Mo
abbrev yD := ql
def Qa (x : yD) (out : List Int) : Option (List Int) :=
  if x.symbol_ < 16 then some (out ++ [x.symbol_])
  else if x.symbol_ = 16 then (if out.length = 0 then none else some (out ++ List.replicate (3 + x.more_.toNat) (out.getD (out.length - 1) 0)))
  else if x.symbol_ = 17 then some (out ++ List.replicate (3 + x.more_.toNat) 0)
  else some (out ++ List.replicate (11 + x.more_.toNat) 0)
def jP : List yD → List Int → Option (List Int)
  | [], out => some out
  | x :: X, out => (Qa x out).bind (jP X)
theorem Xi : ∀ (X Y : List yD) (out : List Int), jP (X ++ Y) out = (jP X out).bind (jP Y)
  | [], Y, out => rfl
  | x :: X, Y, out => by
    rw [List.cons_append, jP, jP]
    cases Qa x out with
    | none => rfl
    | some o => exact Xi X Y o
def uv (s : Nat) : Nat := if s < 16 then 0 else if s = 16 then 2 else if s = 17 then 3 else 7
def vI (x : yD) : Prop := ∃ s m : Nat, x = ⟨(s : Int), (m : Int), (uv s : Int)⟩ ∧ s ≤ 18 ∧ m < 2 ^ uv s
theorem Xz {row : List Int} {i : Nat} {v : Int} : ∀ n, i + n ≤ row.length → (∀ j, j < n → rd row ((i + j : Nat) : Int) = v) → row.take (i + n) = row.take i ++ List.replicate n v
  | 0, _, _ => by simp
  | n + 1, h, hj => by
    have h1 := Xz n (by omega) (fun j hjn => hj j (by omega))
    have h2 := hj n (by omega)
    rw [yb (by omega)] at h2
    rw [show i + (n + 1) = (i + n) + 1 from by omega, jf (by omega), h1, h2, List.append_assoc, List.replicate_succ']
theorem Jl (A : List Int) (v : Int) : (A ++ [v]).getD ((A ++ [v]).length - 1) 0 = v := by
  rw [List.length_append, List.length_singleton, Nat.add_sub_cancel]
  simp [List.getD]
def vQ (row : List Int) (r : qW (List yD)) : Prop := ∃ X, r = .ok X ∧ jP X [] = some row ∧ (∀ x ∈ X, vI x) ∧ X.length ≤ row.length
theorem J0 (K : Nat) (hK : 1000 < K) (row : List Int) (hl : row.length ≤ 320) (hr : ∀ x ∈ row, 0 ≤ x ∧ x ≤ 15) : ∀ (k i : Nat) (X : List yD), row.length - i < k → i ≤ row.length → jP X [] = some (row.take i) → (∀ x ∈ X, vI x) → X.length ≤ i →
    vQ row (qD.l1 K row k X (i : Int)) := by
  intro k
  induction k with
  | zero => intro i X h; omega
  | succ k ih =>
    intro i X hk hi hX hv hXl
    rw [qD.l1, qE]
    by_cases hlt : i < row.length
    · rw [if_pos (by omega)]
      obtain ⟨v, hvr⟩ : ∃ v : Nat, rd row (i : Int) = (v : Int) ∧ v ≤ 15 := by
        rw [yb hlt]
        have := hr row[i] (List.getElem_mem hlt)
        exact ⟨row[i].toNat, by omega, by omega⟩
      obtain ⟨hv0, hv15⟩ := hvr
      -- a run of length n
      have step : ∀ n : Nat, 1 ≤ n → i + n ≤ row.length → (∀ j, j < n → rd row ((i + j : Nat) : Int) = (v : Int)) → vQ row (qD.j4 K (qD.l1 K row k) row X (i : Int) (n : Int)) := by
        intro n hn1 hn hrun
        have next : ∀ (m : Nat) (Y : List yD), 1 ≤ m → m ≤ n → (∀ y ∈ Y, vI y) → Y.length ≤ m → jP Y (row.take i) = some (row.take i ++ List.replicate m (v : Int)) → vQ row (qD.l1 K row k (X ++ Y) (qk ((i : Int) + (m : Int)))) := by
          intro m Y hm1 hm hY hYl hE
          rw [qK (by omega) (by omega), show (i : Int) + (m : Int) = ((i + m : Nat) : Int) from by omega]
          refine ih (i + m) (X ++ Y) (by omega) (by omega) ?_ ?_ (by rw [List.length_append]; omega)
          · rw [Xi, hX, Option.bind_some, hE, Xz m (by omega) (fun j hj => hrun j (by omega))]
          · intro y hy
            rcases List.mem_append.1 hy with h | h
            · exact hv y h
            · exact hY y h
        unfold qD.j4
        rw [zG hlt, qv, qQ, hv0]
        have hroom : ∀ Y : List yD, Y.length ≤ 2 → room (X.length + Y.length) 24 = true := fun Y hY => xF (by omega)
        have v18 : ∀ m : Nat, m < 128 → vI ⟨18, (m : Int), 7⟩ := fun m hm => ⟨18, m, rfl, by decide, hm⟩
        have v17 : ∀ m : Nat, m < 8 → vI ⟨17, (m : Int), 3⟩ := fun m hm => ⟨17, m, rfl, by decide, hm⟩
        have v16 : ∀ m : Nat, m < 4 → vI ⟨16, (m : Int), 2⟩ := fun m hm => ⟨16, m, rfl, by decide, hm⟩
        have vv : vI ⟨(v : Int), 0, 0⟩ := ⟨v, 0, by unfold uv; rw [if_pos (by omega)]; rfl, by omega, by unfold uv; rw [if_pos (by omega)]; decide⟩
        have hvstep : ∀ out, Qa ⟨(v : Int), 0, 0⟩ out = some (out ++ [(v : Int)]) := fun out => by unfold Qa; rw [if_pos (by simp only; omega)]
        rw [vW, xz]
        have h4 : vQ row (qD.j4 K (qD.l1 K row k) row X (i : Int) (n : Int)) → True := fun _ => trivial
        -- the two last cases
        have tail : vQ row (lt (decide ((n : Int) ≥ 4)) fun (v10207 : Bool) => cond v10207
            (lt ((if (7 : Int) < (n : Int) then (7 : Int) else (n : Int))) fun (n_10209 : Int) =>
              chk (room (X.length + ([(ql.mk (v : Int) (0 : Int) (0 : Int)), (ql.mk (16 : Int) (qk (n_10209 - (4 : Int))) (2 : Int))] : List ql).length) 24) <|
              lt (X ++ ([(ql.mk (v : Int) (0 : Int) (0 : Int)), (ql.mk (16 : Int) (qk (n_10209 - (4 : Int))) (2 : Int))] : List ql)) fun (zs10219 : (List ql)) =>
              lt ((qk ((i : Int) + n_10209))) fun (i10220 : Int) => qD.l1 K row k zs10219 i10220)
            (chk (room (X.length + ([(ql.mk (v : Int) (0 : Int) (0 : Int))] : List ql).length) 24) <|
              lt (X ++ ([(ql.mk (v : Int) (0 : Int) (0 : Int))] : List ql)) fun (zs10230 : (List ql)) =>
              lt ((qk ((i : Int) + (1 : Int)))) fun (i10231 : Int) => qD.l1 K row k zs10230 i10231)) := by
          rw [qQ, qE]
          by_cases h4n : 4 ≤ n
          · rw [if_pos (by omega), qQ]
            obtain ⟨m, hm⟩ : ∃ m, min 7 n = m := ⟨_, rfl⟩
            have e2 : (if (7 : Int) < (n : Int) then (7 : Int) else (n : Int)) = (m : Int) := by split <;> omega
            have e3 : qk ((m : Int) - 4) = ((m - 4 : Nat) : Int) := by rw [qK (by omega) (by omega)]; omega
            rw [e2, e3, hroom _ (by simp), qv, qQ, qQ]
            refine next m _ (by omega) (by omega) ?_ (by simp; omega) ?_
            · intro y hy
              simp only [List.mem_cons, List.not_mem_nil, or_false] at hy
              rcases hy with rfl | rfl
              · exact vv
              · exact v16 _ (by omega)
            · rw [jP, hvstep, Option.bind_some, jP, Qa]
              simp only
              rw [if_neg (by decide), if_pos trivial, if_neg (by simp), Option.bind_some, jP, Jl, Int.toNat_natCast, show 3 + (m - 4) = m - 1 from by omega]
              rw [List.append_assoc, List.singleton_append, ← List.replicate_succ, show m - 1 + 1 = m from by omega]
          · rw [if_neg (by omega), hroom _ (by simp), qv, qQ, qQ]
            refine next 1 _ (by omega) (by omega) ?_ (by simp) ?_
            · intro y hy
              simp only [List.mem_cons, List.not_mem_nil, or_false] at hy
              exact hy ▸ vv
            · rw [jP, hvstep, Option.bind_some, jP]; rfl
        by_cases hz : v = 0
        · have hzI : (v : Int) = 0 := by omega
          rw [if_pos hzI, qE]
          by_cases h11 : 11 ≤ n
          · rw [if_pos (by omega), qQ]
            obtain ⟨m, hm⟩ : ∃ m, min 138 n = m := ⟨_, rfl⟩
            have e2 : (if (138 : Int) < (n : Int) then (138 : Int) else (n : Int)) = (m : Int) := by split <;> omega
            have e3 : qk ((m : Int) - 11) = ((m - 11 : Nat) : Int) := by rw [qK (by omega) (by omega)]; omega
            rw [e2, e3, hroom _ (by simp), qv, qQ, qQ]
            refine next m _ (by omega) (by omega) ?_ (by simp; omega) ?_
            · intro y hy
              simp only [List.mem_cons, List.not_mem_nil, or_false] at hy
              exact hy ▸ v18 _ (by omega)
            · rw [jP, Qa]
              simp only
              rw [if_neg (by decide), if_neg (by decide), if_neg (by decide), Option.bind_some, jP, Int.toNat_natCast, show 11 + (m - 11) = m from by omega, hzI]
          · rw [if_neg (by omega), qQ, vW, xz, if_pos hzI, qE]
            by_cases h3 : 3 ≤ n
            · rw [if_pos (by omega)]
              have e3 : qk ((n : Int) - 3) = ((n - 3 : Nat) : Int) := by rw [qK (by omega) (by omega)]; omega
              rw [e3, hroom _ (by simp), qv, qQ, qQ]
              refine next n _ (by omega) (by omega) ?_ (by simp; omega) ?_
              · intro y hy
                simp only [List.mem_cons, List.not_mem_nil, or_false] at hy
                exact hy ▸ v17 _ (by omega)
              · rw [jP, Qa]
                simp only
                rw [if_neg (by decide), if_neg (by decide), if_pos trivial, Option.bind_some, jP, Int.toNat_natCast, show 3 + (n - 3) = n from by omega, hzI]
            · rw [if_neg (by omega)]
              exact tail
        · have hzI : ¬ (v : Int) = 0 := by omega
          rw [if_neg hzI, qQ, vW, xz, if_neg hzI]
          exact tail
      -- the run is measured
      have run : ∀ (j n : Nat), 1 ≤ n → i + n ≤ row.length → (∀ j, j < n → rd row ((i + j : Nat) : Int) = (v : Int)) → row.length - (i + n) < j → vQ row (qD.l2 K (qD.l1 K row k) row X (i : Int) j (n : Int)) := by
        intro j
        induction j with
        | zero => intro n _ _ _ h; omega
        | succ j ihj =>
          intro n hn1 hn hrun hj
          rw [qD.l2, qE]
          have e1 : qk ((i : Int) + (n : Int)) = ((i + n : Nat) : Int) := by rw [qK (by omega) (by omega)]; omega
          rw [e1]
          by_cases hin : i + n < row.length
          · rw [if_pos (by omega), zG hin, qv, zG hlt, qv]
            unfold qD.j3
            rw [xz]
            by_cases he : rd row ((i + n : Nat) : Int) = rd row (i : Int)
            · have e2 : qk ((n : Int) + 1) = ((n + 1 : Nat) : Int) := by rw [qK (by omega) (by omega)]; omega
              rw [if_pos he, qQ, e2]
              refine ihj (n + 1) (by omega) (by omega) (fun q hq => ?_) (by omega)
              by_cases hqn : q < n
              · exact hrun q hqn
              · have : q = n := by omega
                subst this; rw [he, hv0]
            · rw [if_neg he]
              exact step n hn1 hn hrun
          · rw [if_neg (by omega)]
            unfold qD.j3
            rw [cond_false]
            exact step n hn1 hn hrun
      have one : ∀ j, j < 1 → rd row ((i + j : Nat) : Int) = (v : Int) := by
        intro j hj
        have : j = 0 := by omega
        subst this
        exact hv0
      exact run K 1 (Nat.le_refl _) (by omega) one (by omega)
    · rw [if_neg (by omega)]
      have : i = row.length := by omega
      subst this
      rw [List.take_length] at hX
      exact ⟨X, rfl, hX, hv, hXl⟩
theorem XR (K : Nat) (hK : 1000 < K) (row : List Int) (hl : row.length ≤ 320) (hr : ∀ x ∈ row, 0 ≤ x ∧ x ≤ 15) : vQ row (qD.m K row) :=
  J0 K hK row hl hr K 0 [] (by omega) (by omega) rfl (fun x hx => by cases hx) (Nat.le_refl _)
end Go.Pu

set_option maxRecDepth 100000
namespace Go.Pu
open Go Go.Sl Go.Mo
structure K0 (l l' : List Int) (s m : Nat) : Prop where
  len : l'.length = l.length
  bnd : ∀ x ∈ l', 0 ≤ x ∧ x ≤ ((m + 1 : Nat) : Int)
  pos : 0 < l'.getD s 0
  keep : ∀ j : Nat, 0 < l.getD j 0 → 0 < l'.getD j 0
theorem ZO (l : List Int) (i j : Nat) (v : Int) : (l.set i v).getD j 0 = if i = j ∧ i < l.length then v else l.getD j 0 := by
  by_cases h : i = j
  · subst h
    by_cases hl : i < l.length
    · rw [if_pos ⟨rfl, hl⟩, uE hl]
    · rw [if_neg (fun h => hl h.2), List.set_eq_of_length_le (by omega)]
  · rw [if_neg (fun h2 => h h2.1), uC h]
theorem Qs {l : List Int} {s m : Nat} (hs : s < l.length) (hb : ∀ x ∈ l, 0 ≤ x ∧ x ≤ (m : Int)) (hm : m < 1099511627776) : K0 l (l.set (Int.toNat (s : Int)) (qk (rd l (s : Int) + 1))) s m := by
  rw [Int.toNat_natCast, yb hs]
  have h1 := hb l[s] (List.getElem_mem hs)
  have e : qk (l[s] + 1) = l[s] + 1 := qK (by omega) (by omega)
  rw [e]
  refine ⟨List.length_set .., fun x hx => ?_, ?_, fun j hj => ?_⟩
  · rcases List.mem_or_eq_of_mem_set hx with h | h
    · have := hb x h; omega
    · omega
  · rw [uE hs]; omega
  · rw [ZO]
    split
    · omega
    · exact hj
theorem ut {a b a' b' : List Int} (ha : ∀ j : Nat, 0 < a.getD j 0 → 0 < a'.getD j 0) (hb : ∀ j : Nat, 0 < b.getD j 0 → 0 < b'.getD j 0) {t : jl} (h : XH a b t) : XH a' b' t := by
  unfold XH at h ⊢
  split
  · rename_i h0; rw [if_pos h0] at h; exact ha _ h
  · rename_i h0; rw [if_neg h0] at h; exact ⟨ha _ h.1, hb _ h.2⟩
structure Yn (D : List jl) (a b : List Int) : Prop where
  lenA : a.length = 286
  lenB : b.length = 30
  bndA : ∀ x ∈ a, 0 ≤ x ∧ x ≤ ((1 + D.length : Nat) : Int)
  bndB : ∀ x ∈ b, 0 ≤ x ∧ x ≤ ((1 + D.length : Nat) : Int)
  fin : 0 < a.getD 256 0
  all : ∀ t ∈ D, XH a b t
theorem YZ (K : Nat) (hK : 40000 ≤ K) (l : List jl) (hl : l.length < 1000000000) : ∀ (k : Nat) (D T : List jl) (a b : List Int), D ++ T = l → uF T → T.length < k → Yn D a b →
    ∃ a' b', Yn l a' b' ∧ qh.l2 K l k a b (D.length : Int) = qh.j3 K l a' b' := by
  intro k
  induction k with
  | zero => intro D T a b _ _ h; omega
  | succ k ih =>
    intro D T a b h1 hg hk C
    have hlen : D.length + T.length = l.length := by rw [← h1]; simp
    rw [qh.l2, qE]
    cases T with
    | nil =>
      rw [if_neg (by simp only [List.length_nil] at hlen; omega)]
      rw [List.append_nil] at h1
      exact ⟨a, b, h1 ▸ C, rfl⟩
    | cons t T =>
      simp only [List.length_cons] at hlen hk
      have e1 : rd l (D.length : Int) = t := by rw [← h1, x8 _ _ _ rfl]
      have e3 : qk ((D.length : Int) + 1) = ((D ++ [t]).length : Int) := by rw [qK (by omega) (by omega)]; simp
      have hx := hg t (List.mem_cons_self ..)
      have hgT : uF T := fun y hy => hg y (List.mem_cons_of_mem _ hy)
      rw [if_pos (by omega), zG (by omega), qv, e1, xz, e3]
      have lA := C.lenA; have lB := C.lenB
      have hDl : (D ++ [t]).length = D.length + 1 := by simp
      rcases uy hx.1 hx.2.1 hx.2.2 with ⟨h0, _, c, hc, hlit⟩ | ⟨h0, n, d, h3, h258, hd1, hd2, hn, hd⟩
      · rw [if_pos h0, hlit, zG (by omega), qv, qQ]
        have I := Qs (s := c) (by omega) C.bndA (by omega)
        refine ih (D ++ [t]) T _ b (by rw [← h1]; simp) hgT (by omega) ⟨I.len.trans lA, lB, fun x hx => ?_, fun x hx => ?_, I.keep _ C.fin, fun y hy => ?_⟩
        · have := I.bnd x hx; rw [hDl]; omega
        · have := C.bndB x hx; rw [hDl]; omega
        · rcases List.mem_append.1 hy with h | h
          · exact ut I.keep (fun j h => h) (C.all y h)
          · rw [List.mem_singleton] at h
            subst h
            unfold XH
            rw [if_pos h0, hlit, Int.toNat_natCast]
            exact I.pos
      · obtain ⟨s, e, F, hF⟩ := vK K n h3 h258 (by omega)
        obtain ⟨s2, e2, G, hG⟩ := jR K d hd1 hd2 (by omega)
        have f1 := F.lo; have f2 := F.hi; have g1 := G.hi
        rw [if_neg h0, hn, hF, qW.bind_ok]
        dsimp only
        rw [zG (by omega), qv, qQ, hd, hG, qW.bind_ok]
        dsimp only
        rw [zG (by omega), qv, qQ]
        have I := Qs (s := s) (by omega) C.bndA (by omega)
        have J := Qs (s := s2) (by omega) C.bndB (by omega)
        refine ih (D ++ [t]) T _ _ (by rw [← h1]; simp) hgT (by omega) ⟨I.len.trans lA, J.len.trans lB, fun x hx => ?_, fun x hx => ?_, I.keep _ C.fin, fun y hy => ?_⟩
        · have := I.bnd x hx; rw [hDl]; omega
        · have := J.bnd x hx; rw [hDl]; omega
        · rcases List.mem_append.1 hy with h | h
          · exact ut I.keep J.keep (C.all y h)
          · rw [List.mem_singleton] at h
            subst h
            unfold XH
            rw [if_neg h0, hn, hd]
            simp only [Int.toNat_natCast, F.eq, G.eq]
            have p1 := I.pos; have p2 := J.pos
            simp only [Int.toNat_natCast] at p1 p2
            exact ⟨p1, p2⟩
def VY (c : List Int) (x : yD) : List Int := sb c x.symbol_.toNat ++ ze x.bits_.toNat x.more_.toNat
def Vq (c : List Int) : List Int := ordT.flatMap fun s => ze 3 (c.getD s 0).toNat
def uI (c : List Int) (X : List yD) : List Int := ze 3 5 ++ ze 5 29 ++ ze 5 29 ++ ze 4 15 ++ Vq c ++ X.flatMap (VY c)
structure KP (l : List jl) (ll dl c : List Int) (X : List yD) : Prop where
  codes : QR ll dl
  lenL : ll.length = 286
  lenD : dl.length = 30
  fin : 0 < ll.getD 256 0
  all : ∀ t ∈ l, XH ll dl t
  chk : zW c = 0
  len : c.length = 19
  rng : ∀ x ∈ c, 0 ≤ x ∧ x ≤ 7
  row : jP X [] = some (ll ++ dl)
  ok : ∀ x ∈ X, vI x ∧ 0 < c.getD x.symbol_.toNat 0
  few : X.length ≤ 316
theorem YA (s : Nat) : uv s ≤ 7 := by
  unfold uv
  by_cases h1 : s < 16
  · rw [if_pos h1]; omega
  · rw [if_neg h1]
    by_cases h2 : s = 16
    · rw [if_pos h2]; omega
    · rw [if_neg h2]
      by_cases h3 : s = 17
      · rw [if_pos h3]; omega
      · rw [if_neg h3]; omega
theorem Yk {c : List Int} (hc : XG c) {x : yD} (hx : vI x) (hl : c.length = 19) : (VY c x).length ≤ 22 := by
  obtain ⟨s, m, rfl, hs, hm⟩ := hx
  have := uf hc (s := s) (by omega)
  have hb := YA s
  unfold VY
  simp only [Int.toNat_natCast]
  rw [List.length_append, zN]; omega
theorem JM (c : List Int) (x : yD) : xe (VY c x) := zB (vG _ _) (zY _ _)
theorem ZG {α : Type} {f : α → List Int} (h : ∀ x, xe (f x)) : ∀ X : List α, xe (X.flatMap f)
  | [] => fun b hb => by simp at hb
  | x :: X => by rw [List.flatMap_cons]; exact zB (h x) (ZG h X)
theorem Yi (c : List Int) : xe (Vq c) := ZG (fun _ => zY _ _) _
theorem ZW (c : List Int) : (Vq c).length = 57 := by
  unfold Vq ordT; simp only [List.flatMap_cons, List.flatMap_nil, List.length_append, zN, List.length_nil]
theorem xi {α : Type} {f : α → List Int} {b : Nat} : ∀ {X : List α}, (∀ x ∈ X, (f x).length ≤ b) → (X.flatMap f).length ≤ b * X.length
  | [], _ => by simp
  | x :: X, h => by
    have h1 := h x (List.mem_cons_self ..)
    have h2 := xi (X := X) fun y hy => h y (List.mem_cons_of_mem _ hy)
    rw [List.flatMap_cons, List.length_append, List.length_cons, Nat.mul_succ]; omega
theorem JJ (c : List Int) (X : List yD) : xe (uI c X) :=
  zB (zB (zB (zB (zB (zY _ _) (zY _ _)) (zY _ _)) (zY _ _)) (Yi c)) (ZG (JM c) X)
theorem YJ {c : List Int} (hc : XG c) (hl : c.length = 19) {X : List yD} (hX : ∀ x ∈ X, vI x) : (uI c X).length ≤ 74 + 22 * X.length := by
  unfold uI
  have := xi (X := X) (f := VY c) (b := 22) fun x hx => Yk hc (hX x hx) hl
  simp only [List.length_append, zN, ZW]
  omega
theorem JA (K : Nat) (hK : 40000 ≤ K) (l : List jl) (ll lc dl dc c : List Int) (X : List yD) (hc : zW c = 0) (hl : c.length = 19) (hX : ∀ x ∈ X, vI x) (hXl : X.length ≤ 316) : ∀ (k : Nat) (D T : List yD) (B : List Int), D ++ T = X → T.length < k → xe B → B.length + 22 * T.length < 1000000 →
    qh.l11 K l ll lc dl dc X c (zE c) k (B.length : Int) (x9 B) (D.length : Int) = qh.j12 K l ll lc dl dc ((B ++ T.flatMap (VY c)).length : Int) (x9 (B ++ T.flatMap (VY c))) := by
  intro k
  induction k with
  | zero => intro D T B _ h; omega
  | succ k ih =>
    intro D T B h1 hk hB hBl
    have hlen : D.length + T.length = X.length := by rw [← h1]; simp
    rw [qh.l11, qE]
    cases T with
    | nil =>
      rw [if_neg (by simp only [List.length_nil] at hlen; omega), List.flatMap_nil, List.append_nil]
    | cons x T =>
      simp only [List.length_cons] at hlen hk hBl
      have e1 : rd X (D.length : Int) = x := by rw [← h1, x8 _ _ _ rfl]
      have e3 : qk ((D.length : Int) + 1) = ((D ++ [x]).length : Int) := by rw [qK (by omega) (by omega)]; simp
      have hx := hX x (by rw [← h1]; simp)
      have hil := Yk (xa hc) hx hl
      have h01 := JM c x
      rw [if_pos (by omega), zG (by omega), qv, e1, e3, List.flatMap_cons, ← List.append_assoc]
      obtain ⟨s, m, rfl, hs, hm⟩ := hx
      have hb := YA s
      have hp : 2 ^ uv s ≤ 2 ^ 7 := Nat.pow_le_pow_right (by decide) hb
      have e4 : VY c ⟨(s : Int), (m : Int), (uv s : Int)⟩ = sb c s ++ ze (uv s) m := by unfold VY; simp only [Int.toNat_natCast]
      rw [e4] at hil h01 ⊢
      rw [List.length_append] at hil
      dsimp only
      rw [Jn K (by omega) _ _ _ c hc rfl s (by omega) B hB (by omega), qW.bind_ok]
      dsimp only
      rw [jd (by omega) (by omega), QO K (B ++ sb c s) (zB hB (vG _ _)) (uv s) m (by omega) hm (by rw [List.length_append]; omega) (by omega), qW.bind_ok]
      dsimp only
      have := ih (D ++ [⟨(s : Int), (m : Int), (uv s : Int)⟩]) T (B ++ sb c s ++ ze (uv s) m) (by rw [← h1]; simp) (by omega) (zB (zB hB (vG _ _)) (zY _ _)) (by simp only [List.length_append] at hil ⊢; omega)
      rw [this]
      simp only [List.append_assoc]
theorem Uq : ∀ v : Nat, v < 19 → rd tab_deflate_order (v : Int) = (ordT.getD v 0 : Int) ∧ ordT.getD v 0 < 19 := by decide
theorem Xj : ordT.length = 19 := rfl
theorem Vw (K : Nat) (hK : 40000 ≤ K) (l : List jl) (ll lc dl dc c cc : List Int) (X : List yD) (hl : c.length = 19) (hr : ∀ x ∈ c, 0 ≤ x ∧ x ≤ 7) : ∀ (j k v : Nat) (B : List Int), v + j = 19 → j < k → xe B → B.length + 3 * j < 1000000 →
    qh.l9 K l ll lc dl dc X c cc k (B.length : Int) (x9 B) (v : Int) = qh.j10 K l ll lc dl dc X c cc ((B ++ (ordT.drop v).flatMap fun s => ze 3 (c.getD s 0).toNat).length : Int) (x9 (B ++ (ordT.drop v).flatMap fun s => ze 3 (c.getD s 0).toNat)) := by
  intro j
  induction j with
  | zero =>
    intro k v B hv hk _ _
    obtain ⟨k, rfl⟩ : ∃ m, k = m + 1 := ⟨k - 1, by omega⟩
    rw [qh.l9, qE, if_neg (by omega), List.drop_eq_nil_of_le (by rw [Xj]; omega), List.flatMap_nil, List.append_nil]
  | succ j ih =>
    intro k v B hv hk hB hBl
    obtain ⟨k, rfl⟩ : ∃ m, k = m + 1 := ⟨k - 1, by omega⟩
    obtain ⟨o1, o2⟩ := Uq v (by omega)
    have hv19 : v < ordT.length := by rw [Xj]; omega
    have e0 : inb (v : Int) 19 = true := zG (by omega)
    have e1 : ordT.getD v 0 = ordT[v] := by simp [List.getD, List.getElem?_eq_getElem hv19]
    rw [qh.l9, qE, if_pos (by omega), e0, qv, o1, qQ, zG (by omega), qv, jX, vR hv19, List.flatMap_cons, e1]
    have hx := hr (c.getD ordT[v] 0) (by rw [xu (by rw [← e1]; omega)]; exact List.getElem_mem _)
    obtain ⟨m, hm⟩ : ∃ m : Nat, c.getD ordT[v] 0 = (m : Int) := ⟨(c.getD ordT[v] 0).toNat, by omega⟩
    rw [hm, jd (by omega) (by omega), Int.toNat_natCast]
    have hp := QO K B hB 3 m (by omega) (by omega) (by omega) (by omega) ⟨ll, lc⟩ ⟨dl, dc⟩
    rw [show ((3 : Nat) : Int) = 3 from rfl] at hp
    rw [hp, qW.bind_ok]
    dsimp only
    have e3 : qk ((v : Int) + 1) = ((v + 1 : Nat) : Int) := by rw [qK (by omega) (by omega)]; omega
    rw [e3, ih k (v + 1) _ (by omega) (by omega) (zB hB (zY _ _)) (by rw [List.length_append, zN]; omega)]
    simp only [List.append_assoc]
end Go.Pu

set_option maxRecDepth 100000
namespace Go.Pu
open Go Go.Sl Go.Mo
theorem YF (K : Nat) (l : List jl) (ll lc dl dc : List Int) (X : List yD) (hX : ∀ x ∈ X, vI x) (hXl : X.length ≤ 316) : ∀ (k : Nat) (D T : List yD) (o : List Int), D ++ T = X → T.length < k → o.length = 19 → (∀ x ∈ o, 0 ≤ x ∧ x ≤ (D.length : Int)) → (∀ x ∈ D, 0 < o.getD x.symbol_.toNat 0) →
    ∃ o', qh.l4 K l ll lc dl dc X k o (D.length : Int) = qh.j5 K l ll lc dl dc X o' ∧ o'.length = 19 ∧ (∀ x ∈ o', 0 ≤ x ∧ x ≤ 316) ∧ (∀ x ∈ X, 0 < o'.getD x.symbol_.toNat 0) := by
  intro k
  induction k with
  | zero => intro D T o _ h; omega
  | succ k ih =>
    intro D T o h1 hk hol hb hp
    have hlen : D.length + T.length = X.length := by rw [← h1]; simp
    rw [qh.l4, qE]
    cases T with
    | nil =>
      rw [if_neg (by simp only [List.length_nil] at hlen; omega)]
      rw [List.append_nil] at h1
      exact ⟨o, rfl, hol, fun x hx => by have := hb x hx; simp only [List.length_nil] at hlen; omega, h1 ▸ hp⟩
    | cons x T =>
      simp only [List.length_cons] at hlen hk
      have e1 : rd X (D.length : Int) = x := by rw [← h1, x8 _ _ _ rfl]
      have e3 : qk ((D.length : Int) + 1) = ((D ++ [x]).length : Int) := by rw [qK (by omega) (by omega)]; simp
      have hx := hX x (by rw [← h1]; simp)
      rw [if_pos (by omega), zG (by omega), qv, e1, e3]
      obtain ⟨s, m, rfl, hs, hm⟩ := hx
      dsimp only
      rw [zG (by omega), qv, qQ]
      have I := Qs (s := s) (by omega) hb (by omega)
      refine ih (D ++ [⟨(s : Int), (m : Int), (uv s : Int)⟩]) T _ (by rw [← h1]; simp) (by omega) (I.len.trans hol) (fun y hy => ?_) (fun y hy => ?_)
      · have := I.bnd y hy; rw [List.length_append, List.length_singleton]; exact this
      · rcases List.mem_append.1 hy with h | h
        · exact I.keep _ (hp y h)
        · rw [List.mem_singleton] at h
          subst h
          dsimp only
          rw [show ((s : Int)).toNat = s from Int.toNat_natCast s]
          exact I.pos
theorem Jb (K : Nat) (l : List jl) (ll lc dl dc : List Int) (X : List yD) (o : List Int) (hol : o.length = 19) : ∀ (j k v : Nat) (n : Int), v + j = 19 → j < k → ∃ n', qh.l6 K l ll lc dl dc X o k n (v : Int) = qh.j7 K l ll lc dl dc X o n' := by
  intro j
  induction j with
  | zero =>
    intro k v n hv hk
    obtain ⟨k, rfl⟩ : ∃ m, k = m + 1 := ⟨k - 1, by omega⟩
    rw [qh.l6, qE, if_neg (by omega)]
    exact ⟨n, rfl⟩
  | succ j ih =>
    intro k v n hv hk
    obtain ⟨k, rfl⟩ : ∃ m, k = m + 1 := ⟨k - 1, by omega⟩
    have e3 : qk ((v : Int) + 1) = ((v + 1 : Nat) : Int) := by rw [qK (by omega) (by omega)]; omega
    rw [qh.l6, qE, if_pos (by omega), zG (by omega), qv, qQ, qQ, e3]
    exact ih k (v + 1) _ (by omega) (by omega)
structure JV (X : List yD) (o : List Int) : Prop where
  len : o.length = 19
  bnd : ∀ x ∈ o, 0 ≤ x ∧ x ≤ 316
  pos : ∀ x ∈ X, 0 < o.getD x.symbol_.toNat 0
theorem Xx {X : List yD} {o : List Int} {i : Nat} (v : Int) (h : JV X o) (hv : v = if (1 : Int) > o.getD i 0 then 1 else o.getD i 0) : JV X (o.set i v) := by
  refine ⟨(List.length_set ..).trans h.len, fun x hx => ?_, fun x hx => ?_⟩
  · have hb : 0 ≤ v ∧ v ≤ 316 := by
      by_cases hi : i < o.length
      · have := h.bnd o[i] (List.getElem_mem hi)
        rw [xu hi] at hv
        subst hv; split <;> omega
      · rw [List.getD_eq_getElem?_getD, List.getElem?_eq_none (by omega)] at hv
        subst hv; decide
    rcases List.mem_or_eq_of_mem_set hx with h2 | h2
    · exact h.bnd x h2
    · omega
  · have hp := h.pos x hx
    rw [ZO]
    split
    · subst hv; split <;> omega
    · exact hp
theorem Vn (K : Nat) (l : List jl) (ll lc dl dc : List Int) (X : List yD) (o : List Int) (n : Int) (h : JV X o) : ∃ o', JV X o' ∧ qh.j7 K l ll lc dl dc X o n = qh.j8 K l ll lc dl dc X o' := by
  unfold qh.j7
  rw [qE]
  have hl := h.len
  by_cases hn : n < 2
  · have i0 : inb (0 : Int) o.length = true := zG (i := 0) (by omega)
    have i1 : inb (1 : Int) o.length = true := zG (i := 1) (by omega)
    have h1 := Xx (i := 0) _ h rfl
    have i2 : inb (1 : Int) (o.set (Int.toNat 0) (if (1 : Int) > rd o 0 then 1 else rd o 0)).length = true := by rw [List.length_set]; exact i1
    rw [if_pos hn, i0, qv, i1, qv, qQ, i2, qv, qQ]
    have e0 : rd o (0 : Int) = o.getD 0 0 := jX (i := 0)
    have e1 : rd o (1 : Int) = o.getD 1 0 := jX (i := 1)
    refine ⟨_, ?_, rfl⟩
    rw [e0, e1]
    refine Xx (i := 1) _ h1 ?_
    rw [show Int.toNat 0 = 0 from rfl, uC (show (0 : Nat) ≠ 1 by decide)]
  · rw [if_neg hn]
    exact ⟨o, h, rfl⟩
def VK (l : List jl) (ll dl c : List Int) (X : List yD) : List Int := uI c X ++ QN ll dl l
theorem Jz (K : Nat) (hK : 40000 ≤ K) (hK2 : (1099511627776 : Nat) > K) (l : List jl) (hg : uF l) (hl : l.length < 1000000000) (hlK : l.length < K) (ll dl : List Int) (C : QR ll dl) (X : List yD) (hX : ∀ x ∈ X, vI x) (hXl : X.length ≤ 316) (o : List Int) (h : JV X o) :
    ∃ c, qh.j8 K l ll (zE ll) dl (zE dl) X o = .ok (xW (VK l ll dl c X), 0) ∧ zW c = 0 ∧ c.length = 19 ∧ (∀ x ∈ c, 0 ≤ x ∧ x ≤ 7) ∧ ∀ x ∈ X, 0 < c.getD x.symbol_.toNat 0 := by
  have hol := h.len
  obtain ⟨c, h1, h2⟩ := Xs K o 7 (by omega) hK2 ⟨by decide, by decide, by omega, fun n hn => by have := h.bnd n hn; omega, by
    have := uV o 0
    refine Nat.le_trans this ?_
    rw [hol]; decide⟩
  have hcl : c.length = 19 := h2.len.trans hol
  have hcr : ∀ x ∈ c, 0 ≤ x ∧ x ≤ 7 := by
    intro x hx
    obtain ⟨i, hi, rfl⟩ := List.getElem_of_mem hx
    have := h2.rng i (by omega)
    rwa [yb hi] at this
  refine ⟨c, ?_, h2.chk, hcl, hcr, fun x hx => ?_⟩
  · unfold qh.j8
    rw [h1, qW.bind_ok]
    dsimp only
    rw [jD K c (by omega) h2.chk, qW.bind_ok]
    have b1 : xe (ze 3 5) := zY _ _
    have b2 : xe (ze 3 5 ++ ze 5 29) := zB b1 (zY _ _)
    have b3 : xe (ze 3 5 ++ ze 5 29 ++ ze 5 29) := zB b2 (zY _ _)
    have b4 : xe (ze 3 5 ++ ze 5 29 ++ ze 5 29 ++ ze 4 15) := zB b3 (zY _ _)
    have p1 := QO K [] (fun b hb => by cases hb) 3 5 (by decide) (by decide) (by decide) (by omega) ⟨ll, zE ll⟩ ⟨dl, zE dl⟩
    have p2 := QO K _ b1 5 29 (by decide) (by decide) (by decide) (by omega) ⟨ll, zE ll⟩ ⟨dl, zE dl⟩
    have p3 := QO K _ b2 5 29 (by decide) (by decide) (by decide) (by omega) ⟨ll, zE ll⟩ ⟨dl, zE dl⟩
    have p4 := QO K _ b3 4 15 (by decide) (by decide) (by decide) (by omega) ⟨ll, zE ll⟩ ⟨dl, zE dl⟩
    rw [show x9 [] = [] from rfl, show ((3 : Nat) : Int) = 3 from rfl, show ((5 : Nat) : Int) = 5 from rfl, show (([] : List Int).length : Int) = 0 from rfl, List.nil_append] at p1
    rw [show ((29 : Nat) : Int) = 29 from rfl, show ((5 : Nat) : Int) = 5 from rfl] at p2 p3
    rw [show ((15 : Nat) : Int) = 15 from rfl, show ((4 : Nat) : Int) = 4 from rfl] at p4
    rw [p1, qW.bind_ok]
    dsimp only
    rw [p2, qW.bind_ok]
    dsimp only
    rw [p3, qW.bind_ok]
    dsimp only
    rw [p4, qW.bind_ok]
    dsimp only
    have q := Vw K hK l ll (zE ll) dl (zE dl) c (zE c) X hcl hcr 19 K 0 _ rfl (by omega) b4 (by simp only [List.length_append, zN]; omega)
    rw [show ((0 : Nat) : Int) = 0 from rfl, List.drop_zero] at q
    rw [q]
    unfold qh.j10
    have b5 := zB b4 (Yi c)
    have r := JA K hK l ll (zE ll) dl (zE dl) c X h2.chk hcl hX hXl K [] X _ rfl (by omega) b5 (by simp only [List.length_append, zN, ZW]; omega)
    rw [show (([] : List yD).length : Int) = 0 from rfl] at r
    refine r.trans ?_
    unfold qh.j12
    have hh := YJ (xa h2.chk) hcl hX
    have b6 := JJ c X
    have t := Yc K hK ll dl C l hl K [] l (uI c X) rfl hg hlK b6 (by omega) ⟨⟨((uI c X).length : Int)⟩, x9 (uI c X)⟩
    rw [show (([] : List jl).length : Int) = 0 from rfl] at t
    unfold qS.m
    have t2 := congrArg (fun r => r.bind fun (x : Int × List Int) => (zt.m K (qn.mk (qG.mk (qJ.mk x.1) x.2) (qq.mk ll (zE ll)) (qq.mk dl (zE dl)))).bind fun x10619 => (qW.ok (x10619, (0 : Int)) : qW (List UInt8 × Int))) t
    refine Eq.trans t2 ?_
    rw [qW.bind_ok, Yd K _ (uI c X ++ QN ll dl l) rfl]
    rfl
  · have hv := hX x hx
    have hp := h.pos x hx
    obtain ⟨s, m, rfl, hs, hm⟩ := hv
    simp only [Int.toNat_natCast] at hp ⊢
    have hz := h2.zero s (by omega)
    have hr := h2.rng s (by omega)
    rw [jX] at hz hr
    rw [jX] at hz
    have : c.getD s 0 ≠ 0 := fun e => by have := hz.1 e; omega
    omega
theorem uG (K : Nat) (hK : 40000 ≤ K) (hK2 : (1099511627776 : Nat) > K) (l : List jl) (hb : Jh l) (hl : l.length < 1000000000) (hlK : l.length < K) :
    if l.all jx = true then ∃ ll dl c X, KP l ll dl c X ∧ qh.m K l = .ok (xW (VK l ll dl c X), 0) else qh.m K l = .ok ([], 1) := by
  unfold qh.m
  rw [ZT K hK l hl hlK, qW.bind_ok]
  cases hall : l.all jx with
  | false => rfl
  | true =>
    have hg := XB hb hall
    rw [if_pos rfl, Bool.not_true, cond_false]
    have r1 : (decide (0 ≤ (286 : Int)) && room (Int.toNat (286 : Int)) 8) = true := by decide
    have r2 : (decide (0 ≤ (30 : Int)) && room (Int.toNat (30 : Int)) 8) = true := by decide
    have r3 : (decide (0 ≤ (19 : Int)) && room (Int.toNat (19 : Int)) 8) = true := by decide
    rw [r1, qv, qQ, r2, qv, qQ]
    unfold qh.j1
    have i256 : inb (256 : Int) (List.replicate (Int.toNat (286 : Int)) (0 : Int)).length = true := by decide
    rw [i256, qv, qQ]
    have z : ∀ n : Nat, ∀ x ∈ List.replicate n (0 : Int), 0 ≤ x ∧ x ≤ ((0 : Nat) : Int) := fun n x hx => by rw [List.eq_of_mem_replicate hx]; decide
    have I := Qs (l := List.replicate 286 (0 : Int)) (s := 256) (by decide) (z 286) (by decide)
    obtain ⟨a, b, C, hC⟩ := YZ K hK l hl K [] l _ (List.replicate 30 0) rfl hg hlK ⟨I.len, rfl, fun x hx => by have := I.bnd x hx; simpa using this, fun x hx => by have := z 30 x hx; simp only [List.length_nil]; omega, I.pos, fun t ht => by cases ht⟩
    have hC' := hC
    rw [show (([] : List jl).length : Int) = 0 from rfl] at hC'
    obtain ⟨ll, o1, hown1, O1⟩ := Yq K a (by omega) hK2 (by rw [C.lenA]; decide) (by rw [C.lenA]; decide) (fun n hn => by have := C.bndA n hn; omega)
    obtain ⟨dl, o2, hown2, O2⟩ := Yq K b (by omega) hK2 (by rw [C.lenB]; decide) (by rw [C.lenB]; decide) (fun n hn => by have := C.bndB n hn; omega)
    have lL : ll.length = 286 := O1.len.trans C.lenA
    have lD : dl.length = 30 := O2.len.trans C.lenB
    have CC : QR ll dl := ⟨O1.chk, O2.chk, by omega, by omega⟩
    have hrow : ∀ x ∈ ll ++ dl, 0 ≤ x ∧ x ≤ 15 := by
      intro x hx
      rcases List.mem_append.1 hx with h | h
      · exact (xa O1.chk).2 x h
      · exact (xa O2.chk).2 x h
    obtain ⟨X, hX1, hX2, hX3, hX4⟩ := XR K (by omega) (ll ++ dl) (by rw [List.length_append]; omega) hrow
    have hXl : X.length ≤ 316 := by rw [List.length_append] at hX4; omega
    obtain ⟨o, ho1, ho2, ho3, ho4⟩ := YF K l ll (zE ll) dl (zE dl) X hX3 hXl K [] X (List.replicate 19 0) rfl (by omega) rfl (fun x hx => z 19 x hx) (fun x hx => by cases hx)
    obtain ⟨n', hn'⟩ := Jb K l ll (zE ll) dl (zE dl) X o ho2 19 K 0 0 rfl (by omega)
    obtain ⟨o', hk1, hk2⟩ := Vn K l ll (zE ll) dl (zE dl) X o n' ⟨ho2, ho3, ho4⟩
    obtain ⟨c, hc1, hc2, hc3, hc4, hc5⟩ := Jz K hK hK2 l hg hl hlK ll dl CC X hX3 hXl o' hk1
    refine ⟨ll, dl, c, X, ⟨CC, lL, lD, O1.has 256 C.fin, fun t ht => ut O1.has O2.has (C.all t ht), hc2, hc3, hc4, hX2, fun x hx => ⟨hX3 x hx, hc5 x hx⟩, hXl⟩, ?_⟩
    refine Eq.trans hC' ?_
    unfold qh.j3
    rw [hown1, qW.bind_ok]
    dsimp only
    rw [jD K ll (by omega) O1.chk, qW.bind_ok, hown2, qW.bind_ok]
    dsimp only
    rw [jD K dl (by omega) O2.chk, qW.bind_ok, xF (by simp only [List.length_nil]; omega), qv, qQ, List.nil_append, xF (by omega), qv, qQ, hX1, qW.bind_ok, r3, qv, qQ]
    rw [show (([] : List yD).length : Int) = 0 from rfl] at ho1
    refine Eq.trans ho1 ?_
    unfold qh.j5
    rw [show ((0 : Nat) : Int) = 0 from rfl] at hn'
    rw [hn', hk2, hc1]
end Go.Pu

set_option maxRecDepth 100000
namespace Go.Pu
open Go Go.Sl Go.Mo
end Go.Pu

namespace Go.Pu
open Go Go.Sl Go.Mo
theorem YT {a : Int} (h : (Lit.int .u8 a).wf = true) : 0 ≤ a ∧ a < 256 := by
  simp [Lit.wf, Go.IntKind.min, Go.IntKind.max, Go.IntKind.signed, Go.IntKind.bits] at h
  omega
end Go.Pu

set_option maxRecDepth 100000
namespace Go.Pu
open Go Go.Sl Go.Mo
def KQ (l T : List jl) (out : List Int) (r : qW (List UInt8 × Int)) : Prop :=
  (∃ o, vB T out = some o ∧ T.all jx = true ∧ o.length ≤ 258 * l.length ∧ r = .ok (o.map ZX, 0)) ∨ ∃ e : Int, e ≠ 0 ∧ r = .ok ([], e)
end Go.Pu

