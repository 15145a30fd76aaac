/- Plain facts on the models: what they compute, and what holds of them; conditions: what each theorem states. -/
import Derived.Test.YtjgcmokfinicnaaDoorMgmlkd
set_option linter.unusedVariables false
set_option linter.unusedSimpArgs false
namespace Go.Pu
open Go Go.Sl
theorem qs {x : Int} (h0 : -9223372036854775808 ≤ x) (h1 : x < 9223372036854775808) : qi x = x := by
  show (if (true && decide (x % 18446744073709551616 ≥ 9223372036854775808)) = true then x % 18446744073709551616 - 18446744073709551616 else x % 18446744073709551616) = x
  split <;> rename_i h <;> simp at h <;> omega
theorem GK (x : Int) : wr .u64 x = x % 18446744073709551616 := by
  simp [wr, IntKind.wrap, IntKind.bits, IntKind.signed]
theorem GJ (x : Int) : wr .u32 x = x % 4294967296 := by
  simp [wr, IntKind.wrap, IntKind.bits, IntKind.signed]
theorem GL (x : Int) : wr .u8 x = x % 256 := by
  simp [wr, IntKind.wrap, IntKind.bits, IntKind.signed]
theorem ze {x : Int} (h0 : 0 ≤ x) (h1 : x < 18446744073709551616) : wr .u64 x = x := by rw [GK]; omega
theorem zc {x : Int} (h0 : 0 ≤ x) (h1 : x < 4294967296) : wr .u32 x = x := by rw [GJ]; omega
theorem zB {x : Int} (h0 : 0 ≤ x) (h1 : x < 256) : wr .u8 x = x := by rw [GL]; omega
theorem zl {x : Int} (h0 : -9223372036854775808 ≤ x) (h1 : x < 9223372036854775808) : wr .i64 x = x := qs h0 h1
theorem ZG (n a : Nat) : BitVec.ofInt n (a : Int) = BitVec.ofNat n a := by
  apply BitVec.eq_of_toNat_eq
  simp
theorem JI {a b : Nat} (ha : a < 9223372036854775808) (hb : b < 9223372036854775808) : ye .i64 a b = ((a &&& b : Nat) : Int) := by
  show IntKind.i64.wrap ((BitVec.ofInt 64 (a : Int) &&& BitVec.ofInt 64 (b : Int)).toNat : Int) = _
  simp only [ZG, BitVec.toNat_and, BitVec.toNat_ofNat]
  rw [Nat.mod_eq_of_lt (by omega), Nat.mod_eq_of_lt (by omega)]
  have : a &&& b ≤ a := Nat.and_le_left
  exact qs (by omega) (by omega)
theorem vQ {a b : Nat} (ha : a < 9223372036854775808) (hb : b < 9223372036854775808) : xA .i64 (a : Int) (b : Int) = ((a / b : Nat) : Int) := by
  unfold xA
  have h1 : (a : Int).tdiv (b : Int) = ((a / b : Nat) : Int) := by rw [Int.ofNat_tdiv]
  rw [h1]
  have h2 : a / b ≤ a := Nat.div_le_self _ _
  generalize a / b = q at h2 ⊢
  exact qs (by omega) (by omega)
theorem vd {a b : Nat} : yk (a : Int) (b : Int) = ((a % b : Nat) : Int) := by
  unfold yk
  rw [Int.ofNat_tmod]
theorem ja {k : IntKind} {a n : Nat} (hn : n ≤ k.bits) : xF k (a : Int) (n : Int) = ((a / 2 ^ n : Nat) : Int) := by
  unfold xF
  rw [Int.toNat_natCast, Nat.min_eq_left hn, Int.fdiv_eq_ediv_of_nonneg _ (Int.pow_nonneg (by decide))]
  simp
theorem vR {a n : Nat} (hn : n ≤ 64) (h : a * 2 ^ n < 9223372036854775808) : xl .i64 (a : Int) (n : Int) = ((a * 2 ^ n : Nat) : Int) := by
  unfold xl
  rw [Int.toNat_natCast, show min n IntKind.i64.bits = n from Nat.min_eq_left hn]
  have e : (a : Int) * 2 ^ n = ((a * 2 ^ n : Nat) : Int) := by push_cast; rfl
  rw [e]
  exact qs (by omega) (by omega)
theorem XI {a n : Nat} (hn : n ≤ 32) (h : a * 2 ^ n < 4294967296) : xl .u32 (a : Int) (n : Int) = ((a * 2 ^ n : Nat) : Int) := by
  unfold xl
  rw [Int.toNat_natCast, show min n IntKind.u32.bits = n from Nat.min_eq_left hn]
  have e : (a : Int) * 2 ^ n = ((a * 2 ^ n : Nat) : Int) := by push_cast; rfl
  rw [e]
  exact zc (by omega) (by omega)
end Go.Pu

namespace Go.Pu
open Go Go.Sl Go.Mo
def jL (t : List UInt8) (i : Nat) : Bool := (t.getD (i / 8) 0).toNat.testBit (i % 8)
def XL (t : List UInt8) (p : Nat) : Nat → Nat
  | 0 => 0
  | n + 1 => XL t p n + (jL t (p + n)).toNat * 2 ^ n
theorem VA (t : List UInt8) (p : Nat) : ∀ n, XL t p n < 2 ^ n
  | 0 => by simp [XL]
  | n + 1 => by
    have := VA t p n
    have h2 : (jL t (p + n)).toNat ≤ 1 := by cases jL t (p + n) <;> simp
    have h3 : (jL t (p + n)).toNat * 2 ^ n ≤ 2 ^ n := by
      calc _ ≤ 1 * 2 ^ n := Nat.mul_le_mul_right _ h2
        _ = 2 ^ n := Nat.one_mul _
    rw [XL, Nat.pow_succ]; omega
def x5 (t : List UInt8) (p n : Nat) : Except Int (Nat × Nat) := if p + n ≤ 8 * t.length then .ok (XL t p n, p + n) else .error 2
theorem DO {t : List UInt8} {i : Nat} (h : i / 8 < t.length) : ((rd t ((i / 8 : Nat) : Int)).toNat / 2 ^ (i % 8)) % 2 = (jL t i).toNat := by
  unfold jL rd
  rw [Int.toNat_natCast, Nat.testBit_eq_decide_div_mod_eq]
  have : (t.getD (i / 8) default) = t.getD (i / 8) 0 := rfl
  rw [this]
  generalize (t.getD (i / 8) 0).toNat / 2 ^ (i % 8) = q
  rcases Nat.mod_two_eq_zero_or_one q with h | h <;> rw [h] <;> rfl
theorem XS (K : Nat) (t : List UInt8) (p n : Nat) (hn : n ≤ 32) (hp : p + n ≤ 8 * t.length) (hl : t.length < 140737488355328) : ∀ j k, j ≤ n → j < k →
    za.l1 K ⟨t, p⟩ n k (XL t p (n - j)) ((n - j : Nat) : Int) = .ok ((XL t p n : Int), 0, ((p + n : Nat) : Int))
  | _, 0, _, h => by omega
  | 0, k + 1, _, _ => by
    rw [za.l1]
    have h1 : decide (((n - 0 : Nat) : Int) < (n : Int)) = false := by simp
    rw [h1]
    simp only [cond_false, za.j2, Nat.sub_zero]
    rw [qs (by omega) (by omega)]
    push_cast; rfl
  | j + 1, k + 1, hj, hk => by
    rw [za.l1]
    have h1 : decide (((n - (j + 1) : Nat) : Int) < (n : Int)) = true := by simp; omega
    rw [h1]
    simp only [cond_true, qF]
    generalize hi : n - (j + 1) = i
    have hin : i < n := by omega
    have e1 : qi ((p : Int) + (i : Int)) = ((p + i : Nat) : Int) := by rw [qs (by omega) (by omega)]; push_cast; rfl
    rw [e1]
    have e2 : xA .i64 ((p + i : Nat) : Int) (8 : Int) = (((p + i) / 8 : Nat) : Int) := vQ (b := 8) (by omega) (by omega)
    have e3 : yk ((p + i : Nat) : Int) (8 : Int) = (((p + i) % 8 : Nat) : Int) := vd (b := 8)
    have hb : (p + i) / 8 < t.length := by omega
    have hm : (p + i) % 8 < 8 := Nat.mod_lt _ (by decide)
    rw [e2, e3]
    have e4 : inb (((p + i) / 8 : Nat) : Int) t.length = true := by simp [inb]; omega
    have e5 : wr .u64 (((p + i) % 8 : Nat) : Int) = (((p + i) % 8 : Nat) : Int) := ze (by omega) (by omega)
    have e6 : wr .u32 ((rd t (((p + i) / 8 : Nat) : Int)).toNat : Int) = ((rd t (((p + i) / 8 : Nat) : Int)).toNat : Int) := by
      have := (rd t (((p + i) / 8 : Nat) : Int)).toNat_lt
      exact zc (by omega) (by omega)
    have e7 : wr .u64 ((i : Nat) : Int) = ((i : Nat) : Int) := ze (by omega) (by omega)
    rw [e4, e5, e6, e7]
    have e8 : decide ((0 : Int) ≤ (((p + i) % 8 : Nat) : Int)) = true := decide_eq_true (Int.natCast_nonneg _)
    have e9 : decide ((0 : Int) ≤ ((i : Nat) : Int)) = true := decide_eq_true (Int.natCast_nonneg _)
    rw [e8, e9]
    simp only [qf]
    rw [ja (k := .u32) (n := (p + i) % 8) (by show _ ≤ 32; omega)]
    have e10 : yk (((rd t (((p + i) / 8 : Nat) : Int)).toNat / 2 ^ ((p + i) % 8) : Nat) : Int) (2 : Int) = ((jL t (p + i)).toNat : Int) := by
      rw [show (2 : Int) = ((2 : Nat) : Int) from rfl, vd, DO hb]
    rw [e10]
    have hb1 : (jL t (p + i)).toNat ≤ 1 := by cases jL t (p + i) <;> simp
    have hpow : 2 ^ i ≤ 2 ^ 31 := Nat.pow_le_pow_right (by decide) (by omega)
    have hmul : (jL t (p + i)).toNat * 2 ^ i ≤ 1 * 2 ^ i := Nat.mul_le_mul_right _ hb1
    have hnum := VA t p i
    rw [XI (by omega) (by omega)]
    have e11 : wr .u32 ((XL t p i : Int) + (((jL t (p + i)).toNat * 2 ^ i : Nat) : Int)) = (XL t p (i + 1) : Int) := by
      rw [zc (by omega) (by omega), XL]; push_cast; rfl
    have e12 : qi ((i : Int) + 1) = ((i + 1 : Nat) : Int) := by rw [qs (by omega) (by omega)]; push_cast; rfl
    rw [e11, e12]
    have := XS K t p n hn hp hl j k (by omega) (by omega)
    rw [show n - j = i + 1 by omega] at this
    exact this
theorem Uq (K : Nat) (t : List UInt8) (p n : Nat) (hn : n ≤ 32) (hp : p ≤ 8 * t.length) (hl : t.length < 140737488355328) (hK : 32 < K) :
    za.m K ⟨t, p⟩ n = match x5 t p n with
      | .ok (v, q) => .ok ((v : Int), 0, (q : Int))
      | .error e => .ok (0, e, (p : Int)) := by
  unfold za.m x5
  have h1 : (decide ((n : Int) < 0) || decide ((n : Int) > 32)) = false := by simp; omega
  rw [h1, cond_false]
  have e1 : qi (8 * (t.length : Int)) = ((8 * t.length : Nat) : Int) := by rw [qs (by omega) (by omega)]; push_cast; rfl
  have e2 : qi (((8 * t.length : Nat) : Int) - (p : Int)) = ((8 * t.length - p : Nat) : Int) := by rw [qs (by omega) (by omega)]; omega
  simp only [e1, e2]
  by_cases hc : p + n ≤ 8 * t.length
  · have h2 : decide ((n : Int) > ((8 * t.length - p : Nat) : Int)) = false := by simp; omega
    rw [h2, cond_false, if_pos hc]
    have := XS K t p n hn hc hl n K (Nat.le_refl _) (by omega)
    rw [Nat.sub_self] at this
    exact this
  · have h2 : decide ((n : Int) > ((8 * t.length - p : Nat) : Int)) = true := by simp; omega
    rw [h2, cond_true, if_neg hc]
end Go.Pu

namespace Go.Pu
open Go Go.Sl Go.Mo
end Go.Pu

namespace Go.Pu
open Go Go.Sl Go.Mo
def jg (t : List UInt8) (p n : Nat) : Except Int (List UInt8 × Nat) :=
  if (p + 7) / 8 + n ≤ t.length then .ok ((t.drop ((p + 7) / 8)).take n, 8 * ((p + 7) / 8 + n)) else .error 2
theorem ZS (K : Nat) (p : Nat) (hp : p ≤ 9223372036854775800) : ∀ j k, j = 8 * ((p + 7) / 8) - p → j < k → zO.l1 K k (p : Int) = .ok ((8 * ((p + 7) / 8) : Nat) : Int)
  | _, 0, _, h => by omega
  | 0, k + 1, hj, _ => by
    rw [zO.l1]
    have e : yk (p : Int) 8 = ((p % 8 : Nat) : Int) := vd (b := 8)
    have h : p % 8 = 0 := by omega
    rw [e, h]
    have : (((0 : Nat) : Int) != 0) = false := rfl
    rw [this, cond_false]
    congr 2; omega
  | j + 1, k + 1, hj, hk => by
    rw [zO.l1]
    have e : yk (p : Int) 8 = ((p % 8 : Nat) : Int) := vd (b := 8)
    rw [e]
    have : (((p % 8 : Nat) : Int) != 0) = true := by
      rw [bne_iff_ne]; omega
    rw [this, cond_true]
    have e1 : qi ((p : Int) + 1) = ((p + 1 : Nat) : Int) := by rw [qs (by omega) (by omega)]; push_cast; rfl
    rw [e1]
    have := ZS K (p + 1) (by omega) j k (by omega) (by omega)
    rw [this]
    congr 2; omega
theorem J6 (K : Nat) (t : List UInt8) (p n : Nat) (hp : p ≤ 8 * t.length) (hl : t.length < 140737488355328) (hn : n < 140737488355328) (hK : 8 < K) :
    xC.m K ⟨t, p⟩ n = match jg t p n with
      | .ok (v, q) => .ok (v, 0, (q : Int))
      | .error e => .ok ([], e, ((8 * ((p + 7) / 8) : Nat) : Int)) := by
  unfold xC.m jg zO.m
  have h1 : decide ((n : Int) < 0) = false := by simp
  rw [h1, cond_false]
  have := ZS K p (by omega) (8 * ((p + 7) / 8) - p) K rfl (by omega)
  simp only [this, qN.bind_ok, qF]
  have e2 : xA .i64 ((8 * ((p + 7) / 8) : Nat) : Int) 8 = (((p + 7) / 8 : Nat) : Int) := by
    have := vQ (a := 8 * ((p + 7) / 8)) (b := 8) (by omega) (by omega)
    rw [show ((8 : Nat) : Int) = 8 from rfl] at this
    rw [this]; congr 1; omega
  simp only [e2]
  generalize hq : (p + 7) / 8 = q
  have hql : q ≤ t.length := by omega
  have e3 : qi ((t.length : Int) - (q : Int)) = ((t.length - q : Nat) : Int) := by rw [qs (by omega) (by omega)]; omega
  have e4 : qi ((q : Int) + (n : Int)) = ((q + n : Nat) : Int) := by rw [qs (by omega) (by omega)]; push_cast; rfl
  simp only [e3, e4]
  by_cases hc : q + n ≤ t.length
  · have h3 : decide ((n : Int) > ((t.length - q : Nat) : Int)) = false := by simp only [decide_eq_false_iff_not]; omega
    have h4 : subok (q : Int) ((q + n : Nat) : Int) t.length = true := by simp only [subok, decide_eq_true_eq]; omega
    rw [h3, cond_false, if_pos hc, h4]
    simp only [qf, sub, Int.toNat_natCast]
    have e5 : qi (8 * (n : Int)) = ((8 * n : Nat) : Int) := by rw [qs (by omega) (by omega)]; push_cast; rfl
    rw [e5, qs (by omega) (by omega)]
    have e6 : ((8 * q : Nat) : Int) + ((8 * n : Nat) : Int) = ((8 * (q + n) : Nat) : Int) := by push_cast; omega
    rw [e6, show q + n - q = n by omega]
  · have h3 : decide ((n : Int) > ((t.length - q : Nat) : Int)) = true := by simp only [decide_eq_true_eq]; omega
    rw [h3, cond_true, if_neg hc]
end Go.Pu

namespace Go.Pu
open Go Go.Sl Go.Mo
def Y3 (x : Int) : Prop := 0 ≤ x ∧ x ≤ 15
instance (x : Int) : Decidable (Y3 x) := inferInstanceAs (Decidable (_ ∧ _))
def XN (l : List Int) : Prop := l.length ≤ 320 ∧ ∀ x ∈ l, Y3 x
instance (l : List Int) : Decidable (XN l) := inferInstanceAs (Decidable (_ ∧ _))
def cs (l : List Int) : List Int := (List.range 16).map fun (j : Nat) => ((l.count (j : Int) : Nat) : Int)
def Vj (l : List Int) : List Int := (List.range 16).map fun (j : Nat) => if j = 0 then 0 else ((l.count (j : Int) : Nat) : Int)
theorem Kp (l : List Int) : (cs l).length = 16 := by simp [cs]
theorem BL (l : List Int) : (Vj l).length = 16 := by simp [Vj]
theorem yr {α : Type} [Inhabited α] {l : List α} {i : Nat} (h : i < l.length) : rd l (i : Int) = l[i] := by
  simp [rd, List.getD, List.getElem?_eq_getElem h]
theorem z4 {i n : Nat} (h : i < n) : inb (i : Int) n = true := by simp only [inb, decide_eq_true_eq]; omega
theorem jy {α : Type} {l : List α} {i : Nat} (h : i < l.length) : l.take (i + 1) = l.take i ++ [l[i]] := List.take_succ_eq_append_getElem h
theorem ju {α : Type} {l : List α} {i : Nat} (h : i < l.length) : l.drop i = l[i] :: l.drop (i + 1) := List.drop_eq_getElem_cons h
theorem BN {l : List Int} {i : Nat} (h : i < l.length) (hi : Y3 l[i]) (hl : l.length ≤ 320) :
    (cs (l.take i)).set (Int.toNat l[i]) (qi ((rd (cs (l.take i)) l[i]) + 1)) = cs (l.take (i + 1)) := by
  obtain ⟨h0, h1⟩ := hi
  obtain ⟨x, hx⟩ := Int.eq_ofNat_of_zero_le h0
  have hx16 : x < 16 := by omega
  have hrd : rd (cs (l.take i)) l[i] = (((l.take i).count (x : Int) : Nat) : Int) := by
    rw [hx, yr (by rw [Kp]; exact hx16)]; simp [cs]
  have hc : (l.take i).count (x : Int) ≤ 320 := Nat.le_trans List.count_le_length (by simp; omega)
  rw [hrd, qs (by omega) (by omega), hx]
  apply List.ext_getElem
  · simp [cs]
  · intro j h1 h2
    simp only [List.length_set, Kp] at h1
    rw [List.getElem_set]
    simp only [Int.toNat_natCast, jy h]
    by_cases hj : x = j
    · subst hj
      simp [cs, List.count_append, hx]
    · have : ¬ ((x : Int) = (j : Int)) := by omega
      simp [cs, List.count_append, hj, hx, List.count_cons, this]
theorem Jx (K : Nat) (l : List Int) (hl : l.length ≤ 320) : ∀ j k i, i + j = l.length → j < k → (∀ x ∈ l.drop i, Y3 x) →
    xk.l1 K l k (cs (l.take i)) (i : Int) = xk.j2 K (cs l)
  | _, 0, _, _, h, _ => by omega
  | 0, k + 1, i, hi, _, _ => by
    rw [xk.l1]
    have h1 : decide ((i : Int) < (l.length : Int)) = false := by simp only [decide_eq_false_iff_not]; omega
    rw [h1, cond_false, List.take_of_length_le (by omega)]
  | j + 1, k + 1, i, hi, hk, hr => by
    rw [xk.l1]
    have hil : i < l.length := by omega
    have h1 : decide ((i : Int) < (l.length : Int)) = true := by simp only [decide_eq_true_eq]; omega
    rw [h1, cond_true, z4 hil]
    simp only [qf, qF, yr hil]
    rw [ju hil] at hr
    have hin := hr l[i] List.mem_cons_self
    have h2 : (decide (l[i] < 0) || decide (l[i] > 15)) = false := by obtain ⟨a, b⟩ := hin; simp; omega
    have h3 : inb l[i] 16 = true := by obtain ⟨a, b⟩ := hin; simp only [inb, decide_eq_true_eq]; omega
    rw [h2, cond_false, h3]
    simp only [qf]
    rw [BN hil hin hl]
    have e : qi ((i : Int) + 1) = ((i + 1 : Nat) : Int) := by rw [qs (by omega) (by omega)]; push_cast; rfl
    rw [e]
    exact Jx K l hl j k (i + 1) (by omega) (by omega) (fun x hx => hr x (List.mem_cons_of_mem _ hx))
theorem Yp (K : Nat) (l : List Int) (hl : l.length ≤ 320) : ∀ j k i c, i + j = l.length → j < k → c.length = 16 → (∃ x ∈ l.drop i, ¬ Y3 x) →
    ∃ c', xk.l1 K l k c (i : Int) = .ok (c', false)
  | _, 0, _, _, _, h, _, _ => by omega
  | 0, k + 1, i, c, hi, _, _, ⟨x, hx, _⟩ => by
    rw [List.drop_eq_nil_of_le (by omega)] at hx; cases hx
  | j + 1, k + 1, i, c, hi, hk, hc, ⟨x, hx, hn⟩ => by
    rw [xk.l1]
    have hil : i < l.length := by omega
    have h1 : decide ((i : Int) < (l.length : Int)) = true := by simp only [decide_eq_true_eq]; omega
    rw [h1, cond_true, z4 hil]
    simp only [qf, qF, yr hil]
    by_cases hin : Y3 l[i]
    · have h2 : (decide (l[i] < 0) || decide (l[i] > 15)) = false := by obtain ⟨a, b⟩ := hin; simp; omega
      have h3 : inb l[i] 16 = true := by obtain ⟨a, b⟩ := hin; simp only [inb, decide_eq_true_eq]; omega
      rw [h2, cond_false, h3]
      simp only [qf]
      have e : qi ((i : Int) + 1) = ((i + 1 : Nat) : Int) := by rw [qs (by omega) (by omega)]; push_cast; rfl
      rw [e]
      refine Yp K l hl j k (i + 1) _ (by omega) (by omega) (by simp [hc]) ⟨x, ?_, hn⟩
      rw [ju hil] at hx
      rcases List.mem_cons.1 hx with rfl | hx
      · exact absurd hin hn
      · exact hx
    · have h2 : (decide (l[i] < 0) || decide (l[i] > 15)) = true := by
        unfold Y3 at hin; simp; omega
      rw [h2, cond_true]
      exact ⟨_, rfl⟩
theorem YE (K : Nat) (l : List Int) (hK : 320 < K) : (XN l → xk.m K l = .ok (Vj l, true)) ∧ (¬ XN l → ∃ c, xk.m K l = .ok (c, false)) := by
  unfold xk.m
  have e0 : cs (l.take 0) = List.replicate 16 (0 : Int) := by simp [cs]; rfl
  constructor
  · intro ⟨h1, h2⟩
    have h3 : decide ((l.length : Int) > 320) = false := by simp only [decide_eq_false_iff_not]; omega
    rw [h3, cond_false, ← e0]
    have := Jx K l h1 l.length K 0 (by omega) (by omega) (by simpa using h2)
    rw [show ((0 : Nat) : Int) = 0 from rfl] at this
    rw [this, xk.j2]
    simp only [qF]
    rfl
  · intro hn
    by_cases h1 : l.length ≤ 320
    · have h3 : decide ((l.length : Int) > 320) = false := by simp only [decide_eq_false_iff_not]; omega
      rw [h3, cond_false]
      have hb : ∃ x ∈ l.drop 0, ¬ Y3 x := by
        apply Classical.byContradiction
        intro hno
        refine hn ⟨h1, fun x hx => Classical.byContradiction fun hx2 => hno ⟨x, by simpa using hx, hx2⟩⟩
      obtain ⟨c, hc⟩ := Yp K l h1 l.length K 0 (List.replicate 16 0) (by omega) (by omega) (by simp) hb
      exact ⟨c, hc⟩
    · have h3 : decide ((l.length : Int) > 320) = true := by simp only [decide_eq_true_eq]; omega
      rw [h3, cond_true]
      exact ⟨_, rfl⟩
end Go.Pu

namespace Go.Pu
open Go Go.Sl Go.Mo
def c0 (l : List Int) (n : Nat) : Nat := if n = 0 then 0 else l.count (n : Int)
def ks (l : List Int) : Nat → Nat
  | 0 => 0
  | i + 1 => ks l i + c0 l i * 2 ^ (15 - i)
def nz (l : List Int) : List Int := l.filter fun x => decide (0 < x)
def z1 (l : List Int) : Int := if XN l then (if nz l = [] ∨ nz l = [1] ∨ ks l 16 = 32768 then 0 else 3) else 1
theorem Jt {l : List Int} (h : l.length ≤ 320) (n : Nat) : c0 l n ≤ 320 := by
  unfold c0
  split
  · omega
  · exact Nat.le_trans List.count_le_length h
theorem Ud {l : List Int} (h : l.length ≤ 320) : ∀ i, ks l i ≤ i * 10485760
  | 0 => by simp [ks]
  | i + 1 => by
    have h1 := Ud h i
    have h2 : c0 l i * 2 ^ (15 - i) ≤ 320 * 2 ^ 15 := Nat.mul_le_mul (Jt h i) (Nat.pow_le_pow_right (by decide) (by omega))
    rw [ks]; omega
theorem VG {l : List Int} {n : Nat} (h : n < 16) : rd (Vj l) (n : Int) = (c0 l n : Int) := by
  rw [yr (by rw [BL]; exact h)]
  simp only [Vj, c0, List.getElem_map, List.getElem_range]
  split <;> rfl
theorem Zi (K : Nat) (l : List Int) (hl : l.length ≤ 320) : ∀ j k, j ≤ 16 → j < k → xw.l1 K (Vj l) k (ks l (16 - j) : Int) ((16 - j : Nat) : Int) = xw.j2 K (Vj l) (ks l 16 : Int)
  | _, 0, _, h => by omega
  | 0, k + 1, _, _ => by
    rw [xw.l1]
    rfl
  | j + 1, k + 1, hj, hk => by
    rw [xw.l1]
    generalize hi : 16 - (j + 1) = i
    have hil : i < 16 := by omega
    have h1 : decide ((i : Int) < 16) = true := by simp only [decide_eq_true_eq]; omega
    have h2 : decide ((0 : Int) ≤ (i : Int)) = true := decide_eq_true (Int.natCast_nonneg _)
    rw [h1, cond_true, z4 hil, h2]
    simp only [qf, qF, VG hil]
    have e1 : xF .i64 (32768 : Int) (i : Int) = ((2 ^ (15 - i) : Nat) : Int) := by
      rw [show (32768 : Int) = ((32768 : Nat) : Int) from rfl, ja (k := .i64) (by show i ≤ 64; omega)]
      congr 1
      rw [show (32768 : Nat) = 2 ^ (15 - i) * 2 ^ i by rw [← Nat.pow_add, show 15 - i + i = 15 by omega], Nat.mul_div_cancel _ (Nat.two_pow_pos i)]
    have hb := Ud hl i
    have hb2 := Ud hl (i + 1)
    have hm : c0 l i * 2 ^ (15 - i) ≤ 320 * 2 ^ 15 := Nat.mul_le_mul (Jt hl i) (Nat.pow_le_pow_right (by decide) (by omega))
    have e2 : qi ((c0 l i : Int) * ((2 ^ (15 - i) : Nat) : Int)) = ((c0 l i * 2 ^ (15 - i) : Nat) : Int) := by
      rw [← Int.natCast_mul, qs (by omega) (by omega)]
    have e3 : qi ((ks l i : Int) + ((c0 l i * 2 ^ (15 - i) : Nat) : Int)) = (ks l (i + 1) : Int) := by
      have e : (ks l i : Int) + ((c0 l i * 2 ^ (15 - i) : Nat) : Int) = (ks l (i + 1) : Int) := by rw [ks]; push_cast; rfl
      rw [e, qs (by omega) (by omega)]
    have e4 : qi ((i : Int) + 1) = ((i + 1 : Nat) : Int) := by rw [qs (by omega) (by omega)]; push_cast; rfl
    simp only [e1, e2, e3, e4]
    have := Zi K l hl j k (by omega) (by omega)
    rw [show 16 - j = i + 1 by omega] at this
    exact this
theorem B4 (x : Int) (l : List Int) : nz (x :: l) = if 0 < x then x :: nz l else nz l := by
  simp [nz, List.filter_cons]
theorem BG (x : Int) (l : List Int) (n : Nat) : c0 (x :: l) n = c0 l n + (if 0 < n ∧ x = n then 1 else 0) := by
  unfold c0
  by_cases h : n = 0
  · subst h; simp
  · have : 0 < n := by omega
    simp only [h, if_false, List.count_cons, this, true_and]
    by_cases hx : x = (n : Int) <;> simp [hx]
theorem Xa (x : Int) (l : List Int) : ∀ i, ks (x :: l) i = ks l i + (if 0 < x ∧ x < i then 2 ^ (15 - x.toNat) else 0)
  | 0 => by simp [ks]; omega
  | i + 1 => by
    rw [ks, ks, Xa x l i, BG]
    by_cases hx : x = (i : Int)
    · subst hx
      by_cases h0 : 0 < i
      · have h1 : (0 : Int) < (i : Int) := by omega
        have h2 : ¬ ((i : Int) < (i : Int)) := by omega
        have h3 : (i : Int) < ((i + 1 : Nat) : Int) := by omega
        simp only [h0, h1, h2, h3, and_true, and_false, if_true, if_false, Int.toNat_natCast]
        rw [Nat.add_mul, Nat.one_mul]; omega
      · have : i = 0 := by omega
        subst this; simp
    · have h1 : ¬ (0 < i ∧ x = (i : Int)) := fun h => hx h.2
      rw [if_neg h1]
      by_cases h2 : 0 < x ∧ x < (i : Int)
      · have h3 : 0 < x ∧ x < ((i + 1 : Nat) : Int) := by omega
        rw [if_pos h2, if_pos h3]; simp only [Nat.add_zero]; omega
      · have h3 : ¬ (0 < x ∧ x < ((i + 1 : Nat) : Int)) := by omega
        rw [if_neg h2, if_neg h3]; simp only [Nat.add_zero]
theorem KW {x : Int} {l : List Int} (h : XN (x :: l)) : Y3 x ∧ XN l := ⟨h.2 x (by simp), by have := h.1; simp at this; omega, fun y hy => h.2 y (by simp [hy])⟩
theorem Y5 : ∀ {l : List Int}, XN l → (ks l 16 = 0 ↔ nz l = [])
  | [], _ => by simp [nz]; rfl
  | x :: l, h => by
    obtain ⟨⟨hx0, hx1⟩, hl⟩ := KW h
    rw [Xa, B4]
    by_cases hx : 0 < x
    · have h2 : 0 < x ∧ x < ((16 : Nat) : Int) := by omega
      have := Nat.two_pow_pos (15 - x.toNat)
      rw [if_pos h2, if_pos hx]
      constructor
      · intro h; omega
      · intro h; cases h
    · have h2 : ¬ (0 < x ∧ x < ((16 : Nat) : Int)) := by omega
      rw [if_neg h2, if_neg hx, Nat.add_zero]
      exact Y5 hl
theorem XM {l : List Int} {n : Nat} (hn : 0 < n) : (nz l).count (n : Int) = l.count (n : Int) := by
  unfold nz
  rw [List.count_filter]
  simp; omega
theorem BM {l : List Int} (h : XN l) : Vj l = [0, 1, 0, 0, 0, 0, 0, 0, 0, 0, 0, 0, 0, 0, 0, 0] ↔ nz l = [1] := by
  constructor
  · intro hc
    have hcount : ∀ n : Nat, 0 < n → n < 16 → (nz l).count (n : Int) = if n = 1 then 1 else 0 := by
      intro n h0 h1
      have h2 : rd (Vj l) (n : Int) = (c0 l n : Int) := VG h1
      rw [hc] at h2
      rw [XM h0]
      have h3 : c0 l n = l.count (n : Int) := by unfold c0; rw [if_neg (by omega)]
      rw [← h3]
      have h4 : ∀ m : Nat, m < 16 → 0 < m → rd [(0 : Int), 1, 0, 0, 0, 0, 0, 0, 0, 0, 0, 0, 0, 0, 0, 0] (m : Int) = if m = 1 then 1 else 0 := by decide
      rw [h4 n h1 h0] at h2
      by_cases hh : n = 1
      · rw [if_pos hh] at h2 ⊢; omega
      · rw [if_neg hh] at h2 ⊢; omega
    have hall : ∀ x ∈ nz l, x = 1 := by
      intro x hx
      have hx' := List.mem_filter.1 hx
      have h0 : 0 < x := by simpa using hx'.2
      have h1 := (h.2 x hx'.1).2
      obtain ⟨m, hm⟩ := Int.eq_ofNat_of_zero_le (by omega : 0 ≤ x)
      have h2 := hcount m (by omega) (by omega)
      have h3 : 0 < (nz l).count (m : Int) := List.count_pos_iff.2 (hm ▸ hx)
      split at h2 <;> omega
    have h1 := hcount 1 (by omega) (by omega)
    simp only [if_true] at h1
    have h2 : (nz l).length = 1 := by
      have : (nz l).count (1 : Int) = (nz l).length := List.count_eq_length.2 fun b hb => (hall b hb).symm
      rw [← this]; exact h1
    match hn : nz l, h2 with
    | [y], _ => rw [hall y (by rw [hn]; simp)]
  · intro hn
    have h3 : ∀ j ∈ List.range 16, (if j = 0 then (0 : Int) else ((l.count (j : Int) : Nat) : Int)) = if j = 1 then 1 else 0 := by
      intro j _
      by_cases h0 : j = 0
      · subst h0; rfl
      · rw [if_neg h0, ← XM (by omega), hn]
        by_cases h1 : j = 1
        · subst h1; rfl
        · simp [h1, List.count_cons]; omega
    unfold Vj
    rw [List.map_congr_left h3]
    rfl
theorem UU (K : Nat) (l : List Int) (hK : 320 < K) : xw.m K l = .ok (z1 l) := by
  unfold xw.m z1
  obtain ⟨h1, h2⟩ := YE K l hK
  by_cases h : XN l
  · rw [h1 h, if_pos h]
    simp only [qN.bind_ok, Bool.not_true, cond_false]
    have := Zi K l h.1 16 K (by omega) (by omega)
    rw [Nat.sub_self] at this
    refine (show xw.l1 K (Vj l) K (0 : Int) (0 : Int) = _ from this).trans ?_
    unfold xw.j2
    have e1 : ((ks l 16 : Int) == 0) = decide (nz l = []) := by
      rw [Bool.eq_iff_iff]; simp only [beq_iff_eq, decide_eq_true_eq]; rw [← Y5 h]; omega
    have e2 : (Vj l == ([0, (1 : Int), 0, 0, 0, 0, 0, 0, 0, 0, 0, 0, 0, 0, 0, 0] : List Int)) = decide (nz l = [1]) := by
      rw [Bool.eq_iff_iff]; simp only [beq_iff_eq, decide_eq_true_eq]; exact BM h
    have e3 : ((ks l 16 : Int) == 32768) = decide (ks l 16 = 32768) := by
      rw [Bool.eq_iff_iff]; simp only [beq_iff_eq, decide_eq_true_eq]; omega
    rw [e1, e2, e3]
    by_cases a : nz l = [] <;> by_cases b : nz l = [1] <;> by_cases c : ks l 16 = 32768 <;> simp [a, b, c]
  · obtain ⟨c, hc⟩ := h2 h
    rw [hc, if_neg h]
    rfl
end Go.Pu

namespace Go.Pu
open Go Go.Sl Go.Mo
theorem Ue {l l' : List Int} (h : l.Perm l') : ∀ i, ks l i = ks l' i
  | 0 => rfl
  | i + 1 => by rw [ks, ks, Ue h i, c0, c0, h.count_eq]
theorem BY (l : List Int) (x : Int) (i : Nat) : ks (l ++ [x]) i = ks l i + (if 0 < x ∧ x < i then 2 ^ (15 - x.toNat) else 0) := by
  rw [Ue (List.perm_append_singleton x l) i, Xa]
theorem B5 (l : List Int) (x : Int) : nz (l ++ [x]) = if 0 < x then nz l ++ [x] else nz l := by
  unfold nz
  rw [List.filter_append]
  split <;> rename_i h <;> simp [h]
theorem ZT (K : Nat) (l : List Int) (hl : l.length ≤ 320) : ∀ j k i, i + j = l.length → j < k → (∀ x ∈ l.drop i, Y3 x) →
    qM.l1 K l k (ks (l.take i) 16 : Int) ((nz (l.take i)).length : Int) ((nz (l.take i)).getLastD 0) (i : Int) =
      qM.j2 K (ks l 16 : Int) ((nz l).length : Int) ((nz l).getLastD 0)
  | _, 0, _, _, h, _ => by omega
  | 0, k + 1, i, hi, _, _ => by
    rw [qM.l1]
    have h1 : decide ((i : Int) < (l.length : Int)) = false := by simp only [decide_eq_false_iff_not]; omega
    rw [h1, cond_false, List.take_of_length_le (by omega)]
  | j + 1, k + 1, i, hi, hk, hr => by
    rw [qM.l1]
    have hil : i < l.length := by omega
    have h1 : decide ((i : Int) < (l.length : Int)) = true := by simp only [decide_eq_true_eq]; omega
    rw [h1, cond_true, z4 hil]
    simp only [qf, qF, yr hil]
    rw [ju hil] at hr
    have hin := hr l[i] List.mem_cons_self
    have h2 : (decide (l[i] < 0) || decide (l[i] > 15)) = false := by obtain ⟨a, b⟩ := hin; simp; omega
    rw [h2, cond_false]
    have e : qi ((i : Int) + 1) = ((i + 1 : Nat) : Int) := by rw [qs (by omega) (by omega)]; push_cast; rfl
    have IH := ZT K l hl j k (i + 1) (by omega) (by omega) (fun x hx => hr x (List.mem_cons_of_mem _ hx))
    rw [jy hil, BY, B5] at IH
    generalize l[i] = x at hin IH ⊢
    obtain ⟨h0, h15⟩ := hin
    by_cases hx : 0 < x
    · have h3 : decide (x > 0) = true := by simpa using hx
      rw [h3, cond_true]
      obtain ⟨m, rfl⟩ := Int.eq_ofNat_of_zero_le h0
      have e1 : wr .u64 (qi (15 - (m : Int))) = ((15 - m : Nat) : Int) := by rw [qs (by omega) (by omega), ze (by omega) (by omega)]; omega
      have h4 : decide ((0 : Int) ≤ ((15 - m : Nat) : Int)) = true := decide_eq_true (Int.natCast_nonneg _)
      have hp : 2 ^ (15 - m) ≤ 2 ^ 15 := Nat.pow_le_pow_right (by decide) (by omega)
      have e2 : xl .i64 (1 : Int) ((15 - m : Nat) : Int) = ((1 * 2 ^ (15 - m) : Nat) : Int) := vR (a := 1) (by omega) (by omega)
      have hb := Ud (l := l.take i) (by simp; omega) 16
      have e3 : qi ((ks (l.take i) 16 : Int) + ((1 * 2 ^ (15 - m) : Nat) : Int)) = ((ks (l.take i) 16 + 2 ^ (15 - m) : Nat) : Int) := by rw [qs (by omega) (by omega)]; push_cast; omega
      have hnl : (nz (l.take i)).length ≤ 320 := Nat.le_trans (List.length_filter_le _ _) (by simp; omega)
      have e4 : qi (((nz (l.take i)).length : Int) + 1) = (((nz (l.take i)).length + 1 : Nat) : Int) := by rw [qs (by omega) (by omega)]; push_cast; rfl
      simp only [e1, h4, qf, e2, e3, e4, e]
      have h5 : (0 : Int) < (m : Int) ∧ (m : Int) < ((16 : Nat) : Int) := by omega
      rw [if_pos h5, if_pos hx, Int.toNat_natCast] at IH
      simpa using IH
    · have h3 : decide (x > 0) = false := by simpa using hx
      rw [h3, cond_false]
      have h5 : ¬ ((0 : Int) < x ∧ x < ((16 : Nat) : Int)) := by omega
      rw [if_neg h5, if_neg hx, Nat.add_zero] at IH
      rw [e]
      exact IH
theorem u1 (K : Nat) (l : List Int) (hl : l.length ≤ 320) : ∀ j k i s n z, i + j = l.length → j < k → (∃ x ∈ l.drop i, ¬ Y3 x) →
    qM.l1 K l k s n z (i : Int) = .ok 1
  | _, 0, _, _, _, _, _, h, _ => by omega
  | 0, k + 1, i, s, n, z, hi, _, ⟨x, hx, _⟩ => by
    rw [List.drop_eq_nil_of_le (by omega)] at hx; cases hx
  | j + 1, k + 1, i, s, n, z, hi, hk, ⟨x, hx, hn⟩ => by
    rw [qM.l1]
    have hil : i < l.length := by omega
    have h1 : decide ((i : Int) < (l.length : Int)) = true := by simp only [decide_eq_true_eq]; omega
    rw [h1, cond_true, z4 hil]
    simp only [qf, qF, yr hil]
    have e : qi ((i : Int) + 1) = ((i + 1 : Nat) : Int) := by rw [qs (by omega) (by omega)]; push_cast; rfl
    by_cases hin : Y3 l[i]
    · have h2 : (decide (l[i] < 0) || decide (l[i] > 15)) = false := by obtain ⟨a, b⟩ := hin; simp; omega
      have hx' : ∃ x ∈ l.drop (i + 1), ¬ Y3 x := by
        rw [ju hil] at hx
        rcases List.mem_cons.1 hx with rfl | hx
        · exact absurd hin hn
        · exact ⟨x, hx, hn⟩
      rw [h2, cond_false]
      obtain ⟨m, hm⟩ := Int.eq_ofNat_of_zero_le hin.1
      have hm15 := hin.2
      by_cases h3 : decide (l[i] > 0) = true
      · have e1 : wr .u64 (qi (15 - l[i])) = ((15 - m : Nat) : Int) := by rw [hm, qs (by omega) (by omega), ze (by omega) (by omega)]; omega
        have h4 : decide ((0 : Int) ≤ ((15 - m : Nat) : Int)) = true := decide_eq_true (Int.natCast_nonneg _)
        simp only [h3, cond_true, e1, h4, qf, e]
        exact u1 K l hl j k (i + 1) _ _ _ (by omega) (by omega) hx'
      · rw [Bool.not_eq_true] at h3
        rw [h3, cond_false, e]
        exact u1 K l hl j k (i + 1) _ _ _ (by omega) (by omega) hx'
    · have h2 : (decide (l[i] < 0) || decide (l[i] > 15)) = true := by unfold Y3 at hin; simp; omega
      rw [h2, cond_true]
theorem Bh (K : Nat) (l : List Int) (hK : 320 < K) : qM.m K l = .ok (z1 l) := by
  unfold qM.m z1
  by_cases h : XN l
  · rw [if_pos h]
    have h3 : decide ((l.length : Int) > 320) = false := by have := h.1; simp only [decide_eq_false_iff_not]; omega
    rw [h3, cond_false]
    have := ZT K l h.1 l.length K 0 (by omega) (by have := h.1; omega) (by simpa using h.2)
    have hk0 : ks (l.take 0) 16 = 0 := by simp [ks, c0]
    rw [hk0] at this
    refine (show qM.l1 K l K (0 : Int) (0 : Int) (0 : Int) (0 : Int) = _ from this).trans ?_
    unfold qM.j2 qM.j3 qM.j4
    have e3 : ((ks l 16 : Int) == 32768) = decide (ks l 16 = 32768) := by
      rw [Bool.eq_iff_iff]; simp only [beq_iff_eq, decide_eq_true_eq]; omega
    rw [e3]
    match hz : nz l with
    | [] => simp
    | [x] =>
      have hb : (x == 1) = decide (x = 1) := rfl
      by_cases c : ks l 16 = 32768 <;> by_cases hx : x = 1 <;> simp [c, hx, hb]
    | x :: y :: r =>
      have h1 : (((x :: y :: r).length : Int) == 0) = false := by rw [beq_eq_false_iff_ne]; simp; omega
      have h2 : (((x :: y :: r).length : Int) == 1) = false := by rw [beq_eq_false_iff_ne]; simp; omega
      rw [h1, h2]
      by_cases c : ks l 16 = 32768 <;> simp [c]
  · rw [if_neg h]
    by_cases h1 : l.length ≤ 320
    · have h3 : decide ((l.length : Int) > 320) = false := by simp only [decide_eq_false_iff_not]; omega
      rw [h3, cond_false]
      have hb : ∃ x ∈ l.drop 0, ¬ Y3 x := by
        apply Classical.byContradiction
        intro hno
        refine h ⟨h1, fun x hx => Classical.byContradiction fun hx2 => hno ⟨x, by simpa using hx, hx2⟩⟩
      exact u1 K l h1 l.length K 0 _ _ _ (by omega) (by omega) hb
    · have h3 : decide ((l.length : Int) > 320) = true := by simp only [decide_eq_true_eq]; omega
      rw [h3, cond_true]
end Go.Pu

namespace Go.Pu
open Go Go.Sl Go.Mo
def yV (l : List Int) : Nat → Nat
  | 0 => 0
  | n + 1 => 2 * (yV l n + c0 l n)
def y7 (l : List Int) (i : Nat) : Nat := if 0 < l.getD i 0 then yV l (l.getD i 0).toNat + (l.take i).count (l.getD i 0) else 0
def zP (l : List Int) : List Int := (List.range l.length).map fun (i : Nat) => (y7 l i : Int)
def uK (l : List Int) (n i : Nat) : List Int := (List.range l.length).map fun (j : Nat) =>
  if (0 < l.getD j 0 ∧ l.getD j 0 < (n : Int)) ∨ (l.getD j 0 = (n : Int) ∧ j < i) then (y7 l j : Int) else 0
theorem XD {l : List Int} (h : l.length ≤ 320) : ∀ n, yV l n + 640 ≤ 640 * 2 ^ n
  | 0 => by simp [yV]
  | n + 1 => by
    have := XD h n
    have h2 := Jt h n
    rw [yV, Nat.pow_succ]; omega
theorem K2 (l : List Int) (n i : Nat) : (uK l n i).length = l.length := by simp [uK]
theorem xg {l : List Int} {i : Nat} (h : i < l.length) : l.getD i 0 = l[i] := by simp [List.getD, List.getElem?_eq_getElem h]
theorem K1 {l : List Int} {n i : Nat} (h : i < l.length) (hn : 0 < n) (hi : l[i] = (n : Int)) : (uK l n i).set i ((yV l n + (l.take i).count (n : Int) : Nat) : Int) = uK l n (i + 1) := by
  apply List.ext_getElem
  · simp [uK]
  · intro j h1 h2
    have hj : j < l.length := by simpa [uK] using h1
    rw [List.getElem_set]
    simp only [uK, List.getElem_map, List.getElem_range]
    by_cases hij : i = j
    · subst hij
      have hc : y7 l i = yV l n + (l.take i).count (n : Int) := by
        unfold y7
        rw [xg h, hi, if_pos (by omega), Int.toNat_natCast]
      have hd : (0 < l.getD i 0 ∧ l.getD i 0 < (n : Int)) ∨ (l.getD i 0 = (n : Int) ∧ i < i + 1) := .inr ⟨by rw [xg h, hi], by omega⟩
      rw [if_pos rfl, if_pos hd, hc]
    · rw [if_neg hij]
      have : (j < i + 1) ↔ (j < i) := by omega
      simp only [this]
theorem US {l : List Int} {n i : Nat} (h : i < l.length) (hi : l[i] ≠ (n : Int)) : uK l n i = uK l n (i + 1) := by
  unfold uK
  apply List.map_congr_left
  intro j hj
  have hj' := List.mem_range.1 hj
  by_cases hij : j = i
  · subst hij
    have : ¬ l.getD j 0 = (n : Int) := by rw [xg h]; exact hi
    simp only [this, false_and, or_false]
  · have : (j < i + 1) ↔ (j < i) := by omega
    simp only [this]
theorem UT {l : List Int} {n : Nat} (hn : 0 < n) : uK l n l.length = uK l (n + 1) 0 := by
  unfold uK
  apply List.map_congr_left
  intro j hj
  have hj' := List.mem_range.1 hj
  have h1 : ((0 < l.getD j 0 ∧ l.getD j 0 < (n : Int)) ∨ (l.getD j 0 = (n : Int) ∧ j < l.length)) ↔ ((0 < l.getD j 0 ∧ l.getD j 0 < ((n + 1 : Nat) : Int)) ∨ (l.getD j 0 = ((n + 1 : Nat) : Int) ∧ j < 0)) := by
    constructor
    · rintro (⟨a, b⟩ | ⟨a, b⟩)
      · exact .inl ⟨a, by omega⟩
      · exact .inl ⟨by omega, by omega⟩
    · rintro (⟨a, b⟩ | ⟨a, b⟩)
      · by_cases hc : l.getD j 0 < (n : Int)
        · exact .inl ⟨a, hc⟩
        · exact .inr ⟨by omega, hj'⟩
      · omega
  simp only [h1]
theorem Zr {l : List Int} {n : Nat} (h : 0 < n) : c0 l n = l.count (n : Int) := by unfold c0; rw [if_neg (by omega)]
theorem ZV (K : Nat) (g : List Int → Int → Int → qN (List Int × Int)) (l : List Int) (n : Nat) (hl : l.length ≤ 320) (hn : 0 < n) (hn16 : n < 16) : ∀ j k i, i + j = l.length → j < k →
    zb.l2 K g l n k (uK l n i) ((yV l n + (l.take i).count (n : Int) : Nat) : Int) (i : Int) = g (uK l (n + 1) 0) ((yV l n + c0 l n : Nat) : Int) ((n + 1 : Nat) : Int)
  | _, 0, _, _, h => by omega
  | 0, k + 1, i, hi, _ => by
    rw [zb.l2]
    have h1 : decide ((i : Int) < (l.length : Int)) = false := by simp only [decide_eq_false_iff_not]; omega
    have e : qi ((n : Int) + 1) = ((n + 1 : Nat) : Int) := by rw [qs (by omega) (by omega)]; push_cast; rfl
    rw [h1, cond_false, List.take_of_length_le (by omega), Zr hn, ← UT hn]
    have : i = l.length := by omega
    subst this
    simp only [qF, e]
  | j + 1, k + 1, i, hi, hk => by
    rw [zb.l2]
    have hil : i < l.length := by omega
    have h1 : decide ((i : Int) < (l.length : Int)) = true := by simp only [decide_eq_true_eq]; omega
    rw [h1, cond_true, z4 hil]
    simp only [qf, qF, yr hil]
    have e : qi ((i : Int) + 1) = ((i + 1 : Nat) : Int) := by rw [qs (by omega) (by omega)]; push_cast; rfl
    have IH := ZV K g l n hl hn hn16 j k (i + 1) (by omega) (by omega)
    rw [jy hil, List.count_append] at IH
    by_cases hx : l[i] = (n : Int)
    · have h2 : (l[i] == (n : Int)) = true := by simpa using hx
      rw [h2, cond_true, z4 (by rw [K2]; exact hil)]
      have hf := XD hl n
      have hp : 2 ^ n ≤ 2 ^ 15 := Nat.pow_le_pow_right (by decide) (by omega)
      have hc : (l.take i).count (n : Int) ≤ 320 := Nat.le_trans List.count_le_length (by simp; omega)
      have e2 : qi (((yV l n + (l.take i).count (n : Int) : Nat) : Int) + 1) = ((yV l n + ((l.take i).count (n : Int) + 1) : Nat) : Int) := by rw [qs (by omega) (by omega)]; push_cast; omega
      simp only [qf, e, e2, Int.toNat_natCast, K1 hil hn hx]
      have : List.count (n : Int) [l[i]] = 1 := by rw [hx]; simp
      rw [this] at IH
      exact IH
    · have h2 : (l[i] == (n : Int)) = false := by simpa using hx
      rw [h2, cond_false, e, US hil hx]
      have : List.count (n : Int) [l[i]] = 0 := by
        rw [List.count_eq_zero]; simp; exact fun h => hx h.symm
      rw [this, Nat.add_zero] at IH
      exact IH
theorem KZ {l : List Int} (h : XN l) : uK l 16 0 = zP l := by
  unfold uK zP
  apply List.map_congr_left
  intro j hj
  have hj' := List.mem_range.1 hj
  have hin := h.2 (l.getD j 0) (by rw [xg hj']; exact List.getElem_mem _)
  obtain ⟨h0, h1⟩ := hin
  by_cases hx : 0 < l.getD j 0
  · rw [if_pos (.inl ⟨hx, by omega⟩)]
  · have : ¬ ((0 < l.getD j 0 ∧ l.getD j 0 < ((16 : Nat) : Int)) ∨ (l.getD j 0 = ((16 : Nat) : Int) ∧ j < 0)) := by omega
    rw [if_neg this]
    unfold y7
    rw [if_neg hx]; rfl
theorem ZU (K : Nat) (l : List Int) (h : XN l) (hK : 320 < K) : ∀ j k, j ≤ 15 → j < k →
    zb.l1 K l k (uK l (16 - j) 0) ((yV l (15 - j) + c0 l (15 - j) : Nat) : Int) ((16 - j : Nat) : Int) = .ok (zP l, 0)
  | _, 0, _, h => by omega
  | 0, k + 1, _, _ => by
    rw [zb.l1]
    have h1 : decide (((16 - 0 : Nat) : Int) ≤ 15) = false := by decide
    rw [h1, cond_false, Nat.sub_zero, KZ h]
  | j + 1, k + 1, hj, hk => by
    rw [zb.l1]
    have hl := h.1
    generalize hn : 16 - (j + 1) = n
    have h1 : decide ((n : Int) ≤ 15) = true := by simp only [decide_eq_true_eq]; omega
    rw [h1, cond_true]
    have e15 : 15 - (j + 1) + 1 = n := by omega
    have hf := XD hl n
    have hp : 2 ^ n ≤ 2 ^ 15 := Nat.pow_le_pow_right (by decide) (by omega)
    have hfst : yV l n = 2 * (yV l (15 - (j + 1)) + c0 l (15 - (j + 1))) := by rw [← e15, yV]
    have e2 : qi (((yV l (15 - (j + 1)) + c0 l (15 - (j + 1)) : Nat) : Int) * 2) = ((yV l n : Nat) : Int) := by rw [qs (by omega) (by omega)]; omega
    simp only [qF, e2]
    have := ZV K (zb.l1 K l k) l n hl (by omega) (by omega) l.length K 0 (by omega) (by omega)
    rw [List.take_zero, List.count_nil, Nat.add_zero] at this
    refine (show _ = _ from this).trans ?_
    have IH := ZU K l h hK j k (by omega) (by omega)
    rw [show 16 - j = n + 1 by omega, show 15 - j = n by omega] at IH
    exact IH
theorem XT (K : Nat) (l : List Int) (hK : 320 < K) : zb.m K l = if z1 l = 0 then .ok (zP l, 0) else .ok ([], z1 l) := by
  unfold zb.m
  rw [Bh K l hK]
  simp only [qN.bind_ok]
  by_cases h : z1 l = 0
  · have h1 : (z1 l != 0) = false := by simpa using h
    rw [h1, cond_false, if_pos h]
    have hok : XN l := by
      apply Classical.byContradiction
      intro hn
      unfold z1 at h
      rw [if_neg hn] at h; omega
    have hr : (decide ((0 : Int) ≤ (l.length : Int)) && room (Int.toNat (l.length : Int)) 8) = true := by
      have := hok.1
      simp only [room, Int.toNat_natCast, Bool.and_eq_true, decide_eq_true_eq]; omega
    rw [hr]
    simp only [qf, qF, Int.toNat_natCast]
    have e : uK l (16 - 15) 0 = List.replicate l.length 0 := by
      unfold uK
      rw [List.eq_replicate_iff]
      refine ⟨by simp, fun x hx => ?_⟩
      obtain ⟨j, hj, rfl⟩ := List.mem_map.1 hx
      rw [if_neg (by omega)]
    have := ZU K l hok hK 15 K (by omega) (by omega)
    rw [e] at this
    exact this
  · have h1 : (z1 l != 0) = true := by simpa using h
    rw [h1, cond_true, if_neg h]
end Go.Pu

namespace Go.Pu
open Go Go.Sl Go.Mo
def idx (l : List Int) (n i : Nat) : List Int := ((List.range i).filter fun j => decide (l.getD j 0 = (n : Int))).map fun (j : Nat) => (j : Int)
def yq (l : List Int) : Nat → List Int
  | 0 => []
  | n + 1 => if n = 0 then [] else yq l n ++ idx l n l.length
theorem XG (l : List Int) (n i : Nat) : idx l n (i + 1) = if l.getD i 0 = (n : Int) then idx l n i ++ [(i : Int)] else idx l n i := by
  unfold idx
  rw [List.range_succ, List.filter_append, List.map_append, List.filter_cons]
  by_cases h : l.getD i 0 = (n : Int)
  · rw [if_pos (by simpa using h), if_pos h]; simp
  · rw [if_neg (by simpa using h), if_neg h]; simp
theorem xD {l : List Int} (h : z1 l = 0) : XN l := by
  apply Classical.byContradiction
  intro hn
  unfold z1 at h
  rw [if_neg hn] at h; omega
end Go.Pu

namespace Go.Pu
open Go Go.Sl Go.Mo
theorem vP (l : List Int) (n : Nat) : ∀ i, i ≤ l.length → (idx l n i).length = (l.take i).count (n : Int)
  | 0, _ => by simp [idx]
  | i + 1, h => by
    have hil : i < l.length := by omega
    rw [XG, jy hil, List.count_append, xg hil]
    have IH := vP l n i (by omega)
    by_cases hx : l[i] = (n : Int)
    · rw [if_pos hx, List.length_append, IH, hx]; simp
    · rw [if_neg hx, IH]
      have : List.count (n : Int) [l[i]] = 0 := by
        rw [List.count_eq_zero]; simp; exact fun h => hx h.symm
      omega
theorem XF (l : List Int) (n : Nat) {i : Nat} : ∀ j, i ≤ j → idx l n i <+: idx l n j
  | 0, h => by
    have : i = 0 := by omega
    subst this; exact List.prefix_refl _
  | j + 1, h => by
    by_cases hij : i = j + 1
    · subst hij; exact List.prefix_refl _
    · refine (XF l n j (by omega)).trans ?_
      rw [XG]
      split
      · exact List.prefix_append _ _
      · exact List.prefix_refl _
theorem Y0 {l : List Int} {n i : Nat} (h : i < l.length) (hi : l[i] = (n : Int)) : (idx l n l.length)[(l.take i).count (n : Int)]? = some (i : Int) := by
  obtain ⟨r, hr⟩ := XF l n (i := i + 1) l.length (by omega)
  rw [← hr, XG, xg h, if_pos hi, ← vP l n i (by omega), List.append_assoc, List.getElem?_append_right (Nat.le_refl _), Nat.sub_self]
  rfl
theorem BT {l : List Int} {n : Nat} {x : Int} (h : x ∈ idx l n l.length) : ∃ i : Nat, x = i ∧ ∃ hi : i < l.length, l[i] = (n : Int) := by
  obtain ⟨i, hi, rfl⟩ := List.mem_map.1 h
  have h2 := List.mem_filter.1 hi
  have h3 := List.mem_range.1 h2.1
  exact ⟨i, rfl, h3, by have := h2.2; rw [xg h3] at this; simpa using this⟩
theorem UL (l : List Int) (n : Nat) : (idx l n l.length).Nodup := by
  unfold idx
  refine List.Pairwise.map _ (fun a b hab => by omega) (List.Pairwise.filter _ (List.nodup_range (n := l.length)))
theorem BS {l : List Int} {n r : Nat} (h : r < l.count (n : Int)) : ∃ i : Nat, (idx l n l.length)[r]? = some (i : Int) ∧ ∃ hi : i < l.length, l[i] = (n : Int) ∧ (l.take i).count (n : Int) = r := by
  have hlen : (idx l n l.length).length = l.count (n : Int) := by rw [vP l n l.length (Nat.le_refl _), List.take_length]
  have hr : r < (idx l n l.length).length := by omega
  obtain ⟨i, hx, hi, hl⟩ := BT (List.getElem_mem hr)
  refine ⟨i, by rw [List.getElem?_eq_getElem hr, hx], hi, hl, ?_⟩
  have h1 := Y0 hi hl
  have h2 : (l.take i).count (n : Int) < (idx l n l.length).length := (List.getElem?_eq_some_iff.1 h1).1
  have h3 := (List.getElem?_eq_some_iff.1 h1).2
  have hp := List.pairwise_iff_getElem.1 (UL l n)
  have he : (idx l n l.length)[(l.take i).count (n : Int)] = (idx l n l.length)[r] := h3.trans hx.symm
  rcases Nat.lt_trichotomy ((l.take i).count (n : Int)) r with h | h | h
  · exact absurd he (hp _ _ h2 hr h)
  · exact h
  · exact absurd he.symm (hp _ _ hr h2 h)
theorem vA (l : List Int) {n : Nat} (h : 0 < n) : (yq l (n + 1)).length = (yq l n).length + c0 l n := by
  rw [yq, if_neg (by omega), List.length_append, vP l n l.length (Nat.le_refl _), List.take_length, Zr h]
theorem u7 (l : List Int) {n : Nat} : ∀ m, n ≤ m → 0 < n → yq l n <+: yq l m
  | 0, h, h0 => by omega
  | m + 1, h, h0 => by
    by_cases hnm : n = m + 1
    · subst hnm; exact List.prefix_refl _
    · refine (u7 l m (by omega) h0).trans ?_
      rw [yq, if_neg (by omega)]
      exact List.prefix_append _ _
theorem Zn {l : List Int} {n r : Nat} (hn : 0 < n) (hn16 : n < 16) (h : r < c0 l n) :
    ∃ i : Nat, (yq l 16)[(yq l n).length + r]? = some (i : Int) ∧ ∃ hi : i < l.length, l[i] = (n : Int) ∧ y7 l i = yV l n + r := by
  rw [Zr hn] at h
  obtain ⟨i, h1, hi, hl, hc⟩ := BS h
  refine ⟨i, ?_, hi, hl, ?_⟩
  · obtain ⟨s, hs⟩ := u7 l (n := n + 1) 16 (by omega) (by omega)
    have hr : r < (idx l n l.length).length := (List.getElem?_eq_some_iff.1 h1).1
    rw [← hs, yq, if_neg (by omega), List.append_assoc, List.getElem?_append_right (by omega), show (yq l n).length + r - (yq l n).length = r by omega, List.getElem?_append_left hr]
    exact h1
  · unfold y7
    rw [xg hi, hl, if_pos (by omega), Int.toNat_natCast, hc]
theorem YS {l : List Int} {i n : Nat} (hi : i < l.length) (hl : l[i] = (n : Int)) (hn : 0 < n) : y7 l i < yV l n + c0 l n ∧ yV l n ≤ y7 l i := by
  unfold y7
  rw [xg hi, hl, if_pos (by omega), Int.toNat_natCast]
  have h1 := Y0 hi hl
  have h2 := (List.getElem?_eq_some_iff.1 h1).1
  rw [vP l n l.length (Nat.le_refl _), List.take_length] at h2
  rw [Zr hn]; omega
theorem V1 {l : List Int} {i j n : Nat} (hi : i < l.length) (hj : j < l.length) (hli : l[i] = (n : Int)) (hlj : l[j] = (n : Int)) (hn : 0 < n) (h : y7 l i = y7 l j) : i = j := by
  unfold y7 at h
  rw [xg hi, xg hj, hli, hlj, if_pos (by omega), if_pos (by omega)] at h
  have h1 := Y0 hi hli
  have h2 := Y0 hj hlj
  have h3 : (l.take i).count (n : Int) = (l.take j).count (n : Int) := by omega
  rw [h3, h2] at h1
  have := Option.some.inj h1
  omega
end Go.Pu

namespace Go.Pu
open Go Go.Sl Go.Mo
theorem KG (l : List Int) : ∀ n, n ≤ 15 → (yV l n + c0 l n) * 2 ^ (15 - n) = ks l (n + 1)
  | 0, _ => by simp [yV, ks, c0]
  | n + 1, h => by
    have IH := KG l n (by omega)
    rw [ks, ← IH, yV]
    have e : 2 ^ (15 - n) = 2 * 2 ^ (15 - (n + 1)) := by rw [← Nat.pow_succ']; congr 1; omega
    rw [e, Nat.add_mul]
    congr 1
    rw [← Nat.mul_assoc, Nat.mul_comm (yV l n + c0 l n) 2]
theorem X9 (l : List Int) {n m : Nat} (h : n ≤ m) (h0 : 0 < n) : (yq l n).length ≤ (yq l m).length := by
  obtain ⟨r, hr⟩ := u7 l m h h0
  rw [← hr, List.length_append]; omega
theorem ZX {l : List Int} (h : z1 l = 0) : nz l = [] ∨ nz l = [1] ∨ ks l 16 = 32768 := by
  unfold z1 at h
  rw [if_pos (xD (by unfold z1; exact h))] at h
  split at h
  · assumption
  · omega
theorem Kj {l : List Int} {n : Nat} (hn : 0 < n) : c0 l n = (nz l).count (n : Int) := by rw [Zr hn, XM hn]
theorem BP {l : List Int} (h : z1 l = 0) {n v : Nat} (hn : n ≤ 15) (h1 : yV l n + c0 l n ≤ v) (h2 : v < 2 ^ n) (hp : (yq l (n + 1)).length < (yq l 16).length) :
    ∃ i m : Nat, n < m ∧ m < 16 ∧ (∃ hi : i < l.length, l[i] = (m : Int)) ∧ y7 l i / 2 ^ (m - n) = v := by
  rcases ZX h with hz | hz | hz
  · exfalso
    have : ∀ k, (yq l k).length = 0 := by
      intro k
      induction k with
      | zero => rfl
      | succ k ih =>
        by_cases hk : k = 0
        · subst hk; rfl
        · rw [vA l (by omega), ih, Kj (by omega), hz]; simp
    rw [this 16] at hp; omega
  · have hc : ∀ k : Nat, 0 < k → c0 l k = if k = 1 then 1 else 0 := by
      intro k hk
      rw [Kj hk, hz]
      by_cases h1 : k = 1
      · subst h1; simp
      · simp [h1, List.count_cons]; omega
    have hlen : ∀ k, (yq l (k + 2)).length = 1 := by
      intro k
      induction k with
      | zero => rw [vA l (by omega), hc 1 (by omega)]; rfl
      | succ k ih => rw [vA l (by omega), ih, hc (k + 2) (by omega), if_neg (by omega)]
    have hn0 : n = 0 := by
      apply Classical.byContradiction
      intro hne
      obtain ⟨k, rfl⟩ : ∃ k, n = k + 1 := ⟨n - 1, by omega⟩
      rw [show k + 1 + 1 = k + 2 from rfl, hlen k, show (16 : Nat) = 14 + 2 from rfl, hlen 14] at hp; omega
    subst hn0
    obtain ⟨i, _, hi, hl, hcod⟩ := Zn (l := l) (n := 1) (r := 0) (by omega) (by omega) (by rw [hc 1 (by omega)]; decide)
    refine ⟨i, 1, by omega, by omega, ⟨hi, hl⟩, ?_⟩
    have : yV l 1 = 0 := by simp [yV, c0]
    rw [hcod, this]; simp; omega
  · have k15 := KG l 15 (by omega)
    rw [hz] at k15
    simp only [Nat.sub_self, Nat.pow_zero, Nat.mul_one] at k15
    have hn15 : n < 15 := by
      apply Classical.byContradiction
      intro hne
      have : n = 15 := by omega
      subst this; omega
    -- the least length at which it is told
    have hex : ∀ d m, m + d = 15 → n ≤ m → yV l m + c0 l m ≤ v * 2 ^ (m - n) → ∃ m', n < m' ∧ m' < 16 ∧ yV l m' ≤ v * 2 ^ (m' - n) ∧ v * 2 ^ (m' - n) < yV l m' + c0 l m' := by
      intro d
      induction d with
      | zero =>
        intro m hm hnm hle
        exfalso
        have : m = 15 := by omega
        subst this
        have : v * 2 ^ (15 - n) < 2 ^ n * 2 ^ (15 - n) := Nat.mul_lt_mul_of_pos_right h2 (Nat.two_pow_pos _)
        rw [← Nat.pow_add, show n + (15 - n) = 15 by omega] at this
        omega
      | succ d ih =>
        intro m hm hnm hle
        have hnext : yV l (m + 1) ≤ v * 2 ^ (m + 1 - n) := by
          rw [yV, show m + 1 - n = (m - n) + 1 by omega, Nat.pow_succ, ← Nat.mul_assoc]; omega
        by_cases hlt : v * 2 ^ (m + 1 - n) < yV l (m + 1) + c0 l (m + 1)
        · exact ⟨m + 1, by omega, by omega, hnext, hlt⟩
        · exact ih (m + 1) (by omega) (by omega) (by omega)
    obtain ⟨m, hnm, hm16, hlo, hhi⟩ := hex (15 - n) n (by omega) (Nat.le_refl _) (by rw [Nat.sub_self, Nat.pow_zero, Nat.mul_one]; exact h1)
    obtain ⟨i, _, hi, hl, hcod⟩ := Zn (l := l) (n := m) (r := v * 2 ^ (m - n) - yV l m) (by omega) hm16 (by omega)
    refine ⟨i, m, hnm, hm16, ⟨hi, hl⟩, ?_⟩
    rw [hcod, show yV l m + (v * 2 ^ (m - n) - yV l m) = v * 2 ^ (m - n) by omega, Nat.mul_div_cancel _ (Nat.two_pow_pos _)]
theorem Ug {l : List Int} {i n m : Nat} (hnm : n < m) (hm : m < 16) (hi : i < l.length) (hl : l[i] = (m : Int)) : (yq l (n + 1)).length < (yq l 16).length := by
  have h1 := X9 l (n := n + 1) (m := m) (by omega) (by omega)
  have h2 := X9 l (n := m + 1) (m := 16) (by omega) (by omega)
  have h3 := vA l (n := m) (by omega)
  have h4 : 0 < c0 l m := by
    rw [Zr (by omega)]
    exact List.count_pos_iff.2 (hl ▸ List.getElem_mem hi)
  omega
end Go.Pu

namespace Go.Pu
open Go Go.Sl Go.Mo
def jv (l : List Int) (t : List UInt8) : Nat → Nat → Nat → Nat → Except Int (Nat × Nat)
  | 0, _, _, _ => .error 3
  | k + 1, n, v, p =>
    if (yq l (n + 1)).length < (yq l 16).length then
      if p + 1 ≤ 8 * t.length then
        if 2 * v + (jL t p).toNat < yV l (n + 1) + c0 l (n + 1) then .ok (((yq l 16).getD ((yq l (n + 1)).length + (2 * v + (jL t p).toNat) - yV l (n + 1)) 0).toNat, p + 1)
        else jv l t k (n + 1) (2 * v + (jL t p).toNat) (p + 1)
      else .error 2
    else .error 3
def uu (l : List Int) (t : List UInt8) (p : Nat) : Except Int (Nat × Nat) := jv l t 16 0 0 p
theorem DN (t : List UInt8) (p : Nat) : (jL t p).toNat ≤ 1 := by cases jL t p <;> simp
theorem B3 (t : List UInt8) (p : Nat) : XL t p 1 = (jL t p).toNat := by simp [XL]
end Go.Pu

namespace Go.Pu
open Go Go.Sl Go.Mo
theorem jN (l : List Int) : (zP l).length = l.length := by simp [zP]
theorem J5 {l : List Int} {i : Nat} (h : i < l.length) : rd (zP l) (i : Int) = (y7 l i : Int) := by
  rw [yr (by rw [jN]; exact h)]
  simp [zP]
def UK (l : List Int) (n v i : Nat) : Prop := l.getD i 0 = (n : Int) ∧ 0 < n ∧ y7 l i = v
def Qb (l : List Int) (n v i : Nat) : Prop := (n : Int) < l.getD i 0 ∧ y7 l i / 2 ^ ((l.getD i 0).toNat - n) = v
instance (l : List Int) (n v i : Nat) : Decidable (UK l n v i) := inferInstanceAs (Decidable (_ ∧ _))
instance (l : List Int) (n v i : Nat) : Decidable (Qb l n v i) := inferInstanceAs (Decidable (_ ∧ _))
theorem UD {l : List Int} (h : XN l) {i : Nat} (hi : i < l.length) : y7 l i < 33554432 := by
  obtain ⟨h0, h1⟩ := h.2 l[i] (List.getElem_mem hi)
  obtain ⟨m, hm⟩ := Int.eq_ofNat_of_zero_le h0
  by_cases hm0 : m = 0
  · unfold y7
    rw [xg hi, hm, hm0, if_neg (by omega)]; omega
  · have := (YS hi hm (by omega)).1
    have h2 := XD h.1 m
    have h3 := Jt h.1 m
    have hp : 2 ^ m ≤ 2 ^ 15 := Nat.pow_le_pow_right (by decide) (by omega)
    omega
open Classical in
theorem Qd (K : Nat) (g : Int → Int → Int → qN (Int × Int × Int)) (l : List Int) (t : List UInt8) (p0 p n v : Nat) (h : XN l) (hn : n ≤ 15) (hv : v < 65536) : ∀ j k i b, i + j = l.length → j < k → (∀ i', i ≤ i' → i' < l.length → ¬ UK l n v i') →
    qL.l2 K g l (zP l) ⟨t, p0⟩ (p : Int) (v : Int) (n : Int) k b (i : Int) =
      qL.j3 K g ⟨t, p0⟩ (p : Int) (v : Int) (n : Int) (b || decide (∃ i', i ≤ i' ∧ i' < l.length ∧ Qb l n v i'))
  | _, 0, _, _, _, h, _ => by omega
  | 0, k + 1, i, b, hi, _, _ => by
    rw [qL.l2]
    have h1 : decide ((i : Int) < (l.length : Int)) = false := by simp only [decide_eq_false_iff_not]; omega
    have h2 : decide (∃ i', i ≤ i' ∧ i' < l.length ∧ Qb l n v i') = false := by
      simp only [decide_eq_false_iff_not]
      rintro ⟨i', a, c, _⟩; omega
    rw [h1, cond_false, h2, Bool.or_false]
  | j + 1, k + 1, i, b, hi, hk, hno => by
    rw [qL.l2]
    have hil : i < l.length := by omega
    have h1 : decide ((i : Int) < (l.length : Int)) = true := by simp only [decide_eq_true_eq]; omega
    rw [h1, cond_true, z4 hil, z4 (show i < (zP l).length by rw [jN]; exact hil)]
    simp only [qf, yr hil, J5 hil, qF]
    have hii : (imp true ((l[i] == (n : Int)) && decide ((n : Int) > 0)) true) = true := by unfold imp; simp
    rw [hii, qf]
    have hmiss := hno i (Nat.le_refl _) hil
    have h2 : (((l[i] == (n : Int)) && decide ((n : Int) > 0)) && ((y7 l i : Int) == (v : Int))) = false := by
      rw [Bool.eq_false_iff]
      intro hx
      simp only [Bool.and_eq_true, beq_iff_eq, decide_eq_true_eq] at hx
      exact hmiss ⟨by rw [xg hil]; exact hx.1.1, by omega, by omega⟩
    rw [h2, cond_false]
    have e : qi ((i : Int) + 1) = ((i + 1 : Nat) : Int) := by rw [qs (by omega) (by have := h.1; omega)]; push_cast; rfl
    have IH := fun b' => Qd K g l t p0 p n v h hn hv j k (i + 1) b' (by omega) (by omega) (fun i' a c => hno i' (by omega) c)
    have hsplit : decide (∃ i', i ≤ i' ∧ i' < l.length ∧ Qb l n v i') = (decide (Qb l n v i) || decide (∃ i', i + 1 ≤ i' ∧ i' < l.length ∧ Qb l n v i')) := by
      rw [Bool.eq_iff_iff]
      simp only [Bool.or_eq_true, decide_eq_true_eq]
      constructor
      · rintro ⟨i', a, c, d⟩
        by_cases hii : i = i'
        · subst hii; exact .inl d
        · exact .inr ⟨i', by omega, c, d⟩
      · rintro (d | ⟨i', a, c, d⟩)
        · exact ⟨i, Nat.le_refl _, hil, d⟩
        · exact ⟨i', by omega, c, d⟩
    rw [hsplit]
    cases b with
    | true =>
      rw [cond_true, e, IH true]; simp
    | false =>
      rw [cond_false]
      obtain ⟨h0, h15⟩ := h.2 l[i] (List.getElem_mem hil)
      obtain ⟨m, hm⟩ := Int.eq_ofNat_of_zero_le h0
      by_cases ux : l[i] > (n : Int)
      · have h3 : decide (l[i] > (n : Int)) = true := by simpa using ux
        rw [h3, cond_true]
        have e1 : wr .u64 (qi (l[i] - (n : Int))) = ((m - n : Nat) : Int) := by rw [hm, qs (by omega) (by omega), ze (by omega) (by omega)]; omega
        have h4 : decide ((0 : Int) ≤ ((m - n : Nat) : Int)) = true := decide_eq_true (Int.natCast_nonneg _)
        simp only [e1, h4, qf]
        rw [ja (k := .i64) (n := m - n) (by show _ ≤ 64; omega), e, IH]
        have : (((y7 l i / 2 ^ (m - n) : Nat) : Int) == (v : Int)) = decide (Qb l n v i) := by
          rw [Bool.eq_iff_iff]
          simp only [beq_iff_eq, decide_eq_true_eq]
          unfold Qb
          rw [xg hil, hm, Int.toNat_natCast]
          constructor
          · intro hx; exact ⟨by omega, by omega⟩
          · rintro ⟨_, hx⟩; omega
        rw [this]; simp
      · have h3 : decide (l[i] > (n : Int)) = false := by simpa using ux
        rw [h3, cond_false, e, IH]
        have : decide (Qb l n v i) = false := by
          simp only [decide_eq_false_iff_not]
          unfold Qb
          rw [xg hil]; omega
        rw [this]; simp
theorem Qz (K : Nat) (g : Int → Int → Int → qN (Int × Int × Int)) (l : List Int) (t : List UInt8) (p0 p n v i0 : Nat) (h : XN l) (hn : n ≤ 15) (DF : i0 < l.length) (hh : UK l n v i0) : ∀ j k i b, i + j = l.length → j < k → i ≤ i0 →
    qL.l2 K g l (zP l) ⟨t, p0⟩ (p : Int) (v : Int) (n : Int) k b (i : Int) = .ok ((i0 : Int), 0, (p : Int))
  | _, 0, _, _, _, h, _ => by omega
  | 0, k + 1, i, b, hi, _, _ => by omega
  | j + 1, k + 1, i, b, hi, hk, hle => by
    rw [qL.l2]
    have hil : i < l.length := by omega
    have h1 : decide ((i : Int) < (l.length : Int)) = true := by simp only [decide_eq_true_eq]; omega
    rw [h1, cond_true, z4 hil, z4 (show i < (zP l).length by rw [jN]; exact hil)]
    simp only [qf, yr hil, J5 hil, qF]
    have hii : (imp true ((l[i] == (n : Int)) && decide ((n : Int) > 0)) true) = true := by unfold imp; simp
    rw [hii, qf]
    have e : qi ((i : Int) + 1) = ((i + 1 : Nat) : Int) := by rw [qs (by omega) (by have := h.1; omega)]; push_cast; rfl
    by_cases hi1 : UK l n v i
    · have heq : i = i0 := V1 hil DF (by have := hi1.1; rwa [xg hil] at this) (by have := hh.1; rwa [xg DF] at this) hh.2.1 (hi1.2.2.trans hh.2.2.symm)
      subst heq
      have h2 : (((l[i] == (n : Int)) && decide ((n : Int) > 0)) && ((y7 l i : Int) == (v : Int))) = true := by
        have a := hi1.1
        rw [xg hil] at a
        have b' := hi1.2.1
        have c := hi1.2.2
        simp only [Bool.and_eq_true, beq_iff_eq, decide_eq_true_eq]
        exact ⟨⟨a, by omega⟩, by omega⟩
      rw [h2, cond_true]
    · have hne : i ≠ i0 := fun he => hi1 (he ▸ hh)
      have h2 : (((l[i] == (n : Int)) && decide ((n : Int) > 0)) && ((y7 l i : Int) == (v : Int))) = false := by
        rw [Bool.eq_false_iff]
        intro hx
        simp only [Bool.and_eq_true, beq_iff_eq, decide_eq_true_eq] at hx
        exact hi1 ⟨by rw [xg hil]; exact hx.1.1, by omega, by omega⟩
      rw [h2, cond_false]
      have IH := fun b' => Qz K g l t p0 p n v i0 h hn DF hh j k (i + 1) b' (by omega) (by omega) (by omega)
      obtain ⟨h0, h15⟩ := h.2 l[i] (List.getElem_mem hil)
      obtain ⟨m, hm⟩ := Int.eq_ofNat_of_zero_le h0
      cases b with
      | true => rw [cond_true, e]; exact IH true
      | false =>
        rw [cond_false]
        by_cases ux : l[i] > (n : Int)
        · have h3 : decide (l[i] > (n : Int)) = true := by simpa using ux
          have e1 : wr .u64 (qi (l[i] - (n : Int))) = ((m - n : Nat) : Int) := by rw [hm, qs (by omega) (by omega), ze (by omega) (by omega)]; omega
          have h4 : decide ((0 : Int) ≤ ((m - n : Nat) : Int)) = true := decide_eq_true (Int.natCast_nonneg _)
          simp only [h3, cond_true, e1, h4, qf, e]
          exact IH _
        · have h3 : decide (l[i] > (n : Int)) = false := by simpa using ux
          rw [h3, cond_false, e]; exact IH false
end Go.Pu

namespace Go.Pu
open Go Go.Sl Go.Mo
theorem Ky {l : List Int} (h : XN l) {n v : Nat} (hn : n ≤ 15) (hlo : yV l n ≤ v) : (∃ i, i < l.length ∧ UK l n v i) ↔ (0 < n ∧ v < yV l n + c0 l n) := by
  constructor
  · rintro ⟨i, hi, h1, h2, h3⟩
    rw [xg hi] at h1
    have := (YS hi h1 h2).1
    exact ⟨h2, by omega⟩
  · rintro ⟨h1, h2⟩
    obtain ⟨i, _, hi, hl, hc⟩ := Zn (l := l) (n := n) (r := v - yV l n) h1 (by omega) (by omega)
    exact ⟨i, hi, by rw [xg hi]; exact hl, h1, by omega⟩
def JH (l : List Int) (t : List UInt8) (n v p : Nat) : Except Int (Nat × Nat) :=
  if 0 < n ∧ v < yV l n + c0 l n then .ok (((yq l 16).getD ((yq l n).length + v - yV l n) 0).toNat, p) else jv l t (16 - n) n v p
open Classical in
theorem XU (K : Nat) (l : List Int) (t : List UInt8) (p0 : Nat) (hs : z1 l = 0) (hl : t.length < 140737488355328) (hK : 320 < K) : ∀ j k n v p, n + j = 15 → j < k → yV l n ≤ v → v < 2 ^ n → p ≤ 8 * t.length →
    qL.l1 K l (zP l) ⟨t, p0⟩ k (p : Int) (v : Int) (n : Int) =
      match JH l t n v p with
      | .ok (s, q) => .ok ((s : Int), 0, (q : Int))
      | .error e => .ok (0, e, (p0 : Int))
  | _, 0, _, _, _, _, h, _, _, _ => by omega
  | j, k + 1, n, v, p, hn, hk, hv, hv2, hp => by
    have h := xD hs
    rw [qL.l1]
    have h1 : decide ((n : Int) ≤ 15) = true := by simp only [decide_eq_true_eq]; omega
    rw [h1, cond_true]
    have hlen := h.1
    have hpow : 2 ^ n ≤ 2 ^ 15 := Nat.pow_le_pow_right (by decide) (by omega)
    unfold JH
    by_cases hhit : 0 < n ∧ v < yV l n + c0 l n
    · rw [if_pos hhit]
      obtain ⟨i, hsym, hi, hli, hc⟩ := Zn (l := l) (n := n) (r := v - yV l n) hhit.1 (by omega) (by omega)
      have := Qz K (qL.l1 K l (zP l) ⟨t, p0⟩ k) l t p0 p n v i h (by omega) hi ⟨by rw [xg hi]; exact hli, hhit.1, by omega⟩ l.length K 0 false (by omega) (by omega) (by omega)
      refine (show _ = _ from this).trans ?_
      rw [show (yq l n).length + (v - yV l n) = (yq l n).length + v - yV l n by omega] at hsym
      simp only [List.getD, hsym, Option.getD_some, Int.toNat_natCast]
    · rw [if_neg hhit]
      have hge : yV l n + c0 l n ≤ v := by
        by_cases h0 : 0 < n
        · omega
        · have : n = 0 := by omega
          subst this; simp [yV, c0]
      have hno : ∀ i', 0 ≤ i' → i' < l.length → ¬ UK l n v i' := fun i' _ hi' hh => hhit ((Ky h (by omega) hv).1 ⟨i', hi', hh⟩)
      have := Qd K (qL.l1 K l (zP l) ⟨t, p0⟩ k) l t p0 p n v h (by omega) (by omega) l.length K 0 false (by omega) (by omega) hno
      refine (show _ = _ from this).trans ?_
      rw [Bool.false_or, qL.j3, show 16 - n = (15 - n) + 1 by omega, jv]
      by_cases hc : (yq l (n + 1)).length < (yq l 16).length
      · rw [if_pos hc]
        obtain ⟨i, m, hnm, hm16, ⟨hi, hli⟩, hcod⟩ := BP hs (by omega) hge hv2 hc
        have hb : decide (∃ i', 0 ≤ i' ∧ i' < l.length ∧ Qb l n v i') = true := by
          simp only [decide_eq_true_eq]
          refine ⟨i, by omega, hi, ?_, ?_⟩
          · rw [xg hi, hli]; omega
          · rw [xg hi, hli, Int.toNat_natCast]; exact hcod
        rw [hb]
        simp only [Bool.not_true, cond_false]
        have hn15 : n < 15 := by omega
        have hbits := Uq K t p 1 (by omega) hp hl (by omega)
        rw [show ((1 : Nat) : Int) = 1 from rfl] at hbits
        rw [hbits]
        unfold x5
        by_cases hq : p + 1 ≤ 8 * t.length
        · rw [if_pos hq, if_pos hq]
          simp only [qN.bind_ok, B3]
          have h2 : ((0 : Int) != 0) = false := rfl
          rw [h2, cond_false]
          have hbl := DN t p
          generalize (jL t p).toNat = b at hbl ⊢
          have hpow2 : 2 ^ n ≤ 2 ^ 14 := Nat.pow_le_pow_right (by decide) (by omega)
          have e1 : qi (2 * (v : Int)) = ((2 * v : Nat) : Int) := by rw [qs (by omega) (by omega)]; push_cast; rfl
          have e2 : wr .i64 (b : Int) = (b : Int) := zl (by omega) (by omega)
          have e3 : qi (((2 * v : Nat) : Int) + (b : Int)) = ((2 * v + b : Nat) : Int) := by rw [qs (by omega) (by omega)]; push_cast; rfl
          have e4 : qi ((n : Int) + 1) = ((n + 1 : Nat) : Int) := by rw [qs (by omega) (by omega)]; push_cast; rfl
          simp only [qF, e1, e2, e3, e4]
          have IH := XU K l t p0 hs hl hK (j - 1) k (n + 1) (2 * v + b) (p + 1) (by omega) (by omega) (by rw [yV]; omega) (by rw [Nat.pow_succ]; omega) (by omega)
          refine IH.trans ?_
          unfold JH
          rw [show 16 - (n + 1) = 15 - n by omega]
          by_cases hlt : 2 * v + b < yV l (n + 1) + c0 l (n + 1)
          · rw [if_pos ⟨by omega, hlt⟩, if_pos hlt]
          · rw [if_neg (fun hx => hlt hx.2), if_neg hlt]
        · rw [if_neg hq, if_neg hq]
          simp only [qN.bind_ok]
          have h2 : ((2 : Int) != 0) = true := rfl
          rw [h2, cond_true]
      · rw [if_neg hc]
        have hb : decide (∃ i', 0 ≤ i' ∧ i' < l.length ∧ Qb l n v i') = false := by
          simp only [decide_eq_false_iff_not]
          rintro ⟨i, _, hi, h1, _⟩
          rw [xg hi] at h1
          obtain ⟨h0, h15⟩ := h.2 l[i] (List.getElem_mem hi)
          obtain ⟨m, hm⟩ := Int.eq_ofNat_of_zero_le h0
          exact hc (Ug (by omega) (by omega) hi hm)
        rw [hb]
        rfl
theorem Jj (K : Nat) (l : List Int) (t : List UInt8) (p : Nat) (hs : z1 l = 0) (hl : t.length < 140737488355328) (hK : 320 < K) (hp : p ≤ 8 * t.length) :
    qL.m K l (zP l) ⟨t, p⟩ = match uu l t p with
      | .ok (s, q) => .ok ((s : Int), 0, (q : Int))
      | .error e => .ok (0, e, (p : Int)) := by
  have := XU K l t p hs hl hK 15 K 0 0 p (by omega) (by omega) (by simp [yV]) (by simp) hp
  have e1 : JH l t 0 0 p = uu l t p := by unfold JH uu; rw [if_neg (by omega)]
  rw [e1, show ((0 : Nat) : Int) = 0 from rfl] at this
  unfold qL.m
  exact this
end Go.Pu

namespace Go.Pu
open Go Go.Sl Go.Mo
end Go.Pu

namespace Go.Pu
open Go Go.Sl Go.Mo
def Xz (l : List Int) (n : Nat) : List Int := (List.range 16).map fun (j : Nat) => if 1 ≤ j ∧ j < n then (yV l j : Int) else 0
def Qv (l : List Int) (v : Nat) : List Int := (List.range 16).map fun (j : Nat) => if j = 0 then 0 else ((yV l j + (l.take v).count (j : Int) : Nat) : Int)
def Z5 (l : List Int) (v : Nat) : List Int := (List.range l.length).map fun (j : Nat) => if j < v then (y7 l j : Int) else 0
theorem UR (l : List Int) (n : Nat) : (Qv l n).length = 16 := by simp [Qv]
theorem K3 (l : List Int) (n : Nat) : (Z5 l n).length = l.length := by simp [Z5]
theorem uy {α : Type} (f g : Nat → α) (m n : Nat) (x : α) (h1 : n < m → g n = x) (h2 : ∀ j, j ≠ n → g j = f j) : ((List.range m).map f).set n x = (List.range m).map g := by
  apply List.ext_getElem?
  intro j
  by_cases hj : n = j
  · subst hj
    by_cases hm : n < m
    · simp [hm, h1 hm]
    · rw [List.getElem?_eq_none (by simpa using hm), List.getElem?_eq_none (by simpa using hm)]
  · rw [List.getElem?_set_ne hj]
    simp only [List.getElem?_map]
    cases h : (List.range m)[j]? with
    | none => rfl
    | some y =>
      obtain ⟨_, hy⟩ := List.getElem?_eq_some_iff.1 h
      simp at hy
      subst hy
      simp [h2 j (fun e => hj e.symm)]
theorem UH (K : Nat) (l : List Int) (hl : l.length ≤ 320) : ∀ (k n : Nat), 1 ≤ n → n ≤ 16 → 16 < n + k →
    zS.l1 K (Vj l) k (Xz l n) (yV l (n - 1) : Int) (n : Int) = .ok (Xz l 16) := by
  intro k
  induction k with
  | zero => intro n h1 h2 h3; omega
  | succ k ih =>
    intro n h1 h2 h3
    unfold zS.l1
    by_cases h : n ≤ 15
    · have d1 : decide ((n : Int) ≤ (15 : Int)) = true := by simp only [decide_eq_true_eq]; omega
      have e1 : qi ((n : Int) - 1) = ((n - 1 : Nat) : Int) := by rw [qs (by omega) (by omega)]; omega
      have hf := XD hl (n - 1)
      have hc := Jt hl (n - 1)
      have hp : 2 ^ (n - 1) ≤ 2 ^ 14 := Nat.pow_le_pow_right (by decide) (by omega)
      have e2 : qi ((yV l (n - 1) : Int) + (c0 l (n - 1) : Int)) = ((yV l (n - 1) + c0 l (n - 1) : Nat) : Int) := by rw [qs (by omega) (by omega)]; rfl
      have e3 : xl .i64 ((yV l (n - 1) + c0 l (n - 1) : Nat) : Int) 1 = (yV l n : Int) := by
        have := vR (a := yV l (n - 1) + c0 l (n - 1)) (n := 1) (by omega) (by omega)
        rw [show ((1 : Nat) : Int) = 1 from rfl] at this
        rw [this, show yV l n = 2 * (yV l (n - 1) + c0 l (n - 1)) by
          obtain ⟨m, rfl⟩ : ∃ m, n = m + 1 := ⟨n - 1, by omega⟩
          rfl, Nat.mul_comm]
      have e4 : qi ((n : Int) + 1) = ((n + 1 : Nat) : Int) := by rw [qs (by omega) (by omega)]; rfl
      rw [d1, cond_true, e1, z4 (show n - 1 < 16 by omega), qf, VG (show n - 1 < 16 by omega), e2, e3]
      simp only [qF]
      rw [z4 (show n < 16 by omega), qf, e4]
      have := ih (n + 1) (by omega) (by omega) (by omega)
      rw [Nat.add_sub_cancel] at this
      rw [Int.toNat_natCast, Xz, uy _ (fun (j : Nat) => if 1 ≤ j ∧ j < n + 1 then (yV l j : Int) else 0) 16 n _ (fun _ => by rw [if_pos (by omega)]) (fun j hj => by
        by_cases q : 1 ≤ j ∧ j < n
        · rw [if_pos q, if_pos (by omega)]
        · rw [if_neg q, if_neg (by omega)])]
      exact this
    · have d1 : decide ((n : Int) ≤ (15 : Int)) = false := by simp only [decide_eq_false_iff_not]; omega
      rw [d1, cond_false, show n = 16 by omega]
      rfl
theorem DT (K : Nat) (l : List Int) (hl : l.length ≤ 320) (hK : 32 < K) : zS.m K (Vj l) = .ok (Qv l 0) := by
  unfold zS.m
  have := UH K l hl K 1 (by omega) (by omega) (by omega)
  rw [show Xz l 1 = List.replicate 16 0 by
    apply List.ext_getElem?
    intro j
    simp only [Xz, List.getElem?_map, List.getElem?_replicate]
    by_cases hj : j < 16
    · rw [List.getElem?_range hj, if_pos hj, Option.map_some, if_neg (by omega)]
    · rw [List.getElem?_eq_none (by simpa using hj), if_neg hj]; rfl] at this
  rw [show yV l (1 - 1) = 0 from rfl, show ((0 : Nat) : Int) = 0 from rfl, show ((1 : Nat) : Int) = 1 from rfl] at this
  rw [this]
  congr 1
theorem Jd (K : Nat) (l : List Int) (hok : XN l) : ∀ (k v : Nat), v ≤ l.length → l.length < v + k → yf.l1 K l k (Qv l v) (Z5 l v) (v : Int) = .ok (zP l, 0) := by
  intro k
  induction k with
  | zero => intro v h1 h2; omega
  | succ k ih =>
    intro v h1 h2
    have hl := hok.1
    unfold yf.l1
    by_cases h : v < l.length
    · have d1 : decide ((v : Int) < (l.length : Int)) = true := by simp only [decide_eq_true_eq]; omega
      have e1 : qi ((v : Int) + 1) = ((v + 1 : Nat) : Int) := by rw [qs (by omega) (by omega)]; rfl
      obtain ⟨hx0, hx1⟩ := hok.2 l[v] (List.getElem_mem h)
      have ht : l.take (v + 1) = l.take v ++ [l[v]] := by rw [List.take_add_one, List.getElem?_eq_getElem h]; rfl
      have hg : l.getD v 0 = l[v] := xg h
      have IH := ih (v + 1) (by omega) (by omega)
      rw [d1, cond_true, z4 h, qf]
      simp only [qF, yr h, e1]
      obtain ⟨n, hn⟩ := Int.eq_ofNat_of_zero_le hx0
      by_cases hp : 0 < n
      · have d2 : decide (l[v] > (0 : Int)) = true := by simp only [decide_eq_true_eq]; omega
        have hcl := UD hok h
        have hcod : y7 l v = yV l n + (l.take v).count (n : Int) := by unfold y7; rw [hg, if_pos (by omega), hn, Int.toNat_natCast]
        have e2 : rd (Qv l v) (n : Int) = (y7 l v : Int) := by
          rw [yr (by rw [UR]; omega)]
          simp only [Qv, List.getElem_map, List.getElem_range]
          rw [if_neg (by omega), hcod]
        have e3 : qi ((y7 l v : Int) + 1) = ((y7 l v + 1 : Nat) : Int) := by rw [qs (by omega) (by omega)]; rfl
        rw [d2, cond_true, hn, z4 (show n < 16 by omega), qf, z4 (by rw [K3]; exact h), qf, e2, e3]
        rw [Int.toNat_natCast, Int.toNat_natCast]
        rw [show (Z5 l v).set v (y7 l v : Int) = Z5 l (v + 1) from uy _ _ _ _ _ (fun _ => by rw [if_pos (by omega)]) (fun j hj => by
          by_cases q : j < v
          · rw [if_pos q, if_pos (by omega)]
          · rw [if_neg q, if_neg (by omega)])]
        rw [show (Qv l v).set n ((y7 l v + 1 : Nat) : Int) = Qv l (v + 1) from uy _ _ _ _ _ (fun _ => by
          rw [if_neg (by omega), ht, List.count_append, hcod, hn]; simp; omega) (fun j hj => by
          by_cases q : j = 0
          · rw [if_pos q, if_pos q]
          · rw [if_neg q, if_neg q, ht, List.count_append, hn]
            rw [List.count_singleton, if_neg (by simpa using fun e => hj (by omega))]; rfl)]
        exact IH
      · have d2 : decide (l[v] > (0 : Int)) = false := by simp only [decide_eq_false_iff_not]; omega
        rw [d2, cond_false]
        have h0 : l[v] = 0 := by omega
        rw [show Qv l (v + 1) = Qv l v by
          unfold Qv
          apply List.map_congr_left
          intro j _
          by_cases q : j = 0
          · rw [if_pos q, if_pos q]
          · rw [if_neg q, if_neg q, ht, List.count_append, h0, List.count_singleton, if_neg (by simp; omega)]; rfl,
          show Z5 l (v + 1) = Z5 l v by
          unfold Z5
          apply List.map_congr_left
          intro j _
          by_cases q : j < v
          · rw [if_pos q, if_pos (by omega)]
          · rw [if_neg q]
            by_cases q2 : j = v
            · subst q2
              rw [if_pos (by omega)]; unfold y7; rw [hg, h0, if_neg (by omega)]; rfl
            · rw [if_neg (by omega)]] at IH
        exact IH
    · have d1 : decide ((v : Int) < (l.length : Int)) = false := by simp only [decide_eq_false_iff_not]; omega
      rw [d1, cond_false]
      have : Z5 l v = zP l := by
        unfold Z5 zP
        apply List.map_congr_left
        intro j hj
        have : j < l.length := by simpa using hj
        rw [if_pos (by omega)]
      rw [this]
theorem UV (K : Nat) (l : List Int) (hK : 320 < K) : yf.m K l = if z1 l = 0 then .ok (zP l, 0) else .ok ([], z1 l) := by
  unfold yf.m
  rw [UU K l hK]
  simp only [qN.bind_ok]
  by_cases h : z1 l = 0
  · have h1 : (z1 l != 0) = false := by simpa using h
    have hok := xD h
    have hl := hok.1
    rw [h1, cond_false, if_pos h, (YE K l hK).1 hok]
    simp only [qN.bind_ok]
    rw [DT K l hl (by omega)]
    simp only [qN.bind_ok, Int.toNat_natCast]
    have h2 : (decide (0 ≤ (l.length : Int)) && room l.length 8) = true := by
      rw [Bool.and_eq_true, decide_eq_true_eq]
      refine ⟨by omega, ?_⟩
      simp only [room, decide_eq_true_eq]; omega
    rw [h2, qf]
    simp only [qF]
    have := Jd K l hok K 0 (by omega) (by omega)
    rw [show Z5 l 0 = List.replicate l.length 0 by
      apply List.ext_getElem?
      intro j
      simp only [Z5, List.getElem?_map, List.getElem?_replicate]
      by_cases hj : j < l.length
      · rw [List.getElem?_range hj, if_pos hj, Option.map_some, if_neg (by omega)]
      · rw [List.getElem?_eq_none (by simpa using hj), if_neg hj]; rfl] at this
    exact this
  · have h1 : (z1 l != 0) = true := by simpa using h
    rw [h1, cond_true, if_neg h]
end Go.Pu

namespace Go.Pu
open Go Go.Sl Go.Mo
theorem DV (l : List Int) (n : Nat) : ∀ d, (yV l n + c0 l n) * 2 ^ (d + 1) ≤ yV l (n + d + 1) := by
  intro d
  induction d with
  | zero => rw [Nat.add_zero, yV]; omega
  | succ d ih =>
    rw [show n + (d + 1) + 1 = (n + d + 1) + 1 from rfl, yV, Nat.pow_succ, ← Nat.mul_assoc]
    omega
end Go.Pu

namespace Go.Pu
open Go Go.Sl Go.Mo
def qV : Nat → Nat → List Int
  | 0, _ => []
  | n + 1, v => ((v % 2 : Nat) : Int) :: qV n (v / 2)
theorem xi : ∀ n v, (qV n v).length = n
  | 0, _ => rfl
  | n + 1, v => by rw [qV, List.length_cons, xi n]
def x3 (B : List Int) : Prop := ∀ b ∈ B, b = 0 ∨ b = 1
theorem xB : ∀ n v, x3 (qV n v)
  | 0, _ => by intro b hb; cases hb
  | n + 1, v => by
    intro b hb
    rw [qV] at hb
    rcases List.mem_cons.1 hb with rfl | hb
    · omega
    · exact xB n _ b hb
theorem z8 {a b : List Int} (h1 : x3 a) (h2 : x3 b) : x3 (a ++ b) := by
  intro x hx
  rcases List.mem_append.1 hx with h | h
  · exact h1 x h
  · exact h2 x h
theorem QT : ∀ n m v, qV (n + m) v = qV n v ++ qV m (v / 2 ^ n)
  | 0, m, v => by simp [qV]
  | n + 1, m, v => by
    rw [show n + 1 + m = (n + m) + 1 by omega, qV, qV, QT n m, List.cons_append, Nat.div_div_eq_div_mul, ← Nat.pow_succ']
theorem Xq : ∀ n v k, n ≤ k → qV n (v % 2 ^ k) = qV n v
  | 0, _, _, _ => rfl
  | n + 1, v, k, h => by
    obtain ⟨j, rfl⟩ : ∃ j, k = j + 1 := ⟨k - 1, by omega⟩
    rw [qV, qV]
    have e1 : v % 2 ^ (j + 1) % 2 = v % 2 := by rw [Nat.pow_succ']; exact Nat.mod_mul_right_mod v 2 (2 ^ j)
    have e2 : v % 2 ^ (j + 1) / 2 = v / 2 % 2 ^ j := by rw [Nat.pow_succ', Nat.mod_mul_right_div_self]
    rw [e1, e2, Xq n _ j (by omega)]
def nB (B : List Int) (p : Nat) : Nat → Nat
  | 0 => 0
  | n + 1 => nB B p n + (B.getD (p + n) 0).toNat * 2 ^ n
theorem Zb {B : List Int} (h : x3 B) (i : Nat) : B.getD i 0 = 0 ∨ B.getD i 0 = 1 := by
  by_cases hi : i < B.length
  · rw [xg hi]; exact h _ (List.getElem_mem hi)
  · left
    rw [List.getD_eq_getElem?_getD, List.getElem?_eq_none (by omega)]; rfl
theorem YB {B : List Int} (h : x3 B) (p : Nat) : ∀ n, nB B p n < 2 ^ n
  | 0 => by simp [nB]
  | n + 1 => by
    have := YB h p n
    rw [nB, Nat.pow_succ]
    rcases Zb h (p + n) with h1 | h1 <;> rw [h1] <;> simp <;> omega
theorem QE {B : List Int} (p : Nat) : ∀ n m, n ≤ m → B.length ≤ p + n → nB B p m = nB B p n
  | n, 0, h, _ => by
    have : n = 0 := by omega
    rw [this]
  | n, m + 1, h, hl => by
    by_cases hn : n = m + 1
    · rw [hn]
    · rw [nB, QE p n m (by omega) hl, List.getD_eq_getElem?_getD, List.getElem?_eq_none (by omega)]
      simp
theorem Uj {B : List Int} (h : x3 B) (p : Nat) : ∀ n j, (nB B p n).testBit j = (decide (j < n) && (B.getD (p + j) 0 == 1))
  | 0, j => by simp [nB]
  | n + 1, j => by
    have hlt := YB h p n
    have e : nB B p (n + 1) = 2 ^ n * (B.getD (p + n) 0).toNat + nB B p n := by rw [nB, Nat.mul_comm]; omega
    rw [e, Nat.testBit_two_pow_mul_add _ hlt]
    split
    · rename_i hj
      rw [Uj h p n j]
      simp [hj, show j < n + 1 by omega]
    · rename_i hj
      by_cases hjn : j = n
      · subst hjn
        rcases Zb h (p + j) with h1 | h1 <;> rw [h1] <;> simp
      · have h1 : ¬ j < n + 1 := by omega
        have : (1 : Nat) < 2 ^ (j - n) := Nat.one_lt_two_pow (by omega)
        rcases Zb h (p + n) with h2 | h2
        · rw [h2]; simp [h1]
        · rw [h2]
          simp only [h1, decide_false, Bool.false_and]
          exact Nat.testBit_lt_two_pow this
def xY (B : List Int) : List UInt8 := (List.range ((B.length + 7) / 8)).map fun j => UInt8.ofNat (nB B (8 * j) 8)
theorem uL (B : List Int) : (xY B).length = (B.length + 7) / 8 := by simp [xY]
theorem Yl {B : List Int} (h : x3 B) {i : Nat} (hi : i < B.length) : jL (xY B) i = (B.getD i 0 == 1) := by
  unfold jL
  have hj : i / 8 < (xY B).length := by rw [uL]; omega
  have e : (xY B).getD (i / 8) 0 = UInt8.ofNat (nB B (8 * (i / 8)) 8) := by
    rw [List.getD_eq_getElem?_getD, List.getElem?_eq_getElem hj]
    simp [xY]
  have hlt := YB h (8 * (i / 8)) 8
  rw [e, ofNat_toNat' hlt, Uj h]
  rw [show 8 * (i / 8) + i % 8 = i by omega]
  simp [Nat.mod_lt]
where ofNat_toNat' {n : Nat} (h : n < 2 ^ 8) : (UInt8.ofNat n).toNat = n := by simp; omega
theorem Ub {a n : Nat} (hn : n ≤ 8) (h : a * 2 ^ n < 256) : xl .u8 (a : Int) (n : Int) = ((a * 2 ^ n : Nat) : Int) := by
  unfold xl
  rw [Int.toNat_natCast, show min n IntKind.u8.bits = n from Nat.min_eq_left hn]
  have e : (a : Int) * 2 ^ n = ((a * 2 ^ n : Nat) : Int) := by push_cast; rfl
  rw [e]
  exact zB (by omega) (by omega)
theorem Vy (A B : List Int) (p : Nat) : ∀ n, nB (A ++ B) (A.length + p) n = nB B p n
  | 0 => rfl
  | n + 1 => by
    rw [nB, nB, Vy A B p n, Nat.add_assoc, List.getD_eq_getElem?_getD, List.getD_eq_getElem?_getD, List.getElem?_append_right (by omega), Nat.add_sub_cancel_left]
theorem YA (R : List Int) : ∀ n v, nB (qV n v ++ R) 0 n = v % 2 ^ n := by
  have key : ∀ n v k, k ≤ n → nB (qV n v ++ R) 0 k = v % 2 ^ k := by
    intro n v k
    induction k with
    | zero => intro _; simp [nB, Nat.mod_one]
    | succ k ih =>
      intro h
      rw [nB, ih (by omega), Nat.zero_add]
      have e : (qV n v ++ R).getD k 0 = ((v / 2 ^ k % 2 : Nat) : Int) := by
        rw [show n = k + (n - k) by omega, QT, List.append_assoc, List.getD_eq_getElem?_getD, List.getElem?_append_right (by rw [xi]; omega), xi, Nat.sub_self, show n - k = (n - k - 1) + 1 by omega, qV]
        rfl
      rw [e, Int.toNat_natCast, Nat.mod_pow_succ, Nat.mul_comm]
  intro n v
  exact key n v n (Nat.le_refl _)
end Go.Pu

namespace Go.Pu
open Go Go.Sl Go.Mo
def y4 (B : List Int) : List Int := (List.range ((B.length + 7) / 8)).map fun j => ((nB B (8 * j) 8 : Nat) : Int)
theorem uC (B : List Int) : (y4 B).length = (B.length + 7) / 8 := by simp [y4]
theorem BF {B : List Int} {j : Nat} (h : j < (B.length + 7) / 8) : rd (y4 B) (j : Int) = ((nB B (8 * j) 8 : Nat) : Int) := by
  rw [yr (by rw [uC]; exact h)]
  simp [y4]
theorem UB (B : List Int) : (y4 B).map Q5 = xY B := by
  unfold y4 xY
  rw [List.map_map]
  apply List.map_congr_left
  intro j _
  simp [Q5]
theorem Jb (A C : List Int) (p : Nat) : ∀ n, p + n ≤ A.length → nB (A ++ C) p n = nB A p n
  | 0, _ => rfl
  | n + 1, h => by
    rw [nB, nB, Jb A C p n (by omega), List.getD_eq_getElem?_getD, List.getD_eq_getElem?_getD, List.getElem?_append_left (by omega)]
theorem Gn (p : Nat) (hp : p < 9223372036854775808) : ye .i64 (p : Int) 7 = ((p % 8 : Nat) : Int) := by
  have := JI (a := p) (b := 7) hp (by omega)
  rw [show ((7 : Nat) : Int) = 7 from rfl] at this
  rw [this, show p &&& 7 = p % 8 from Nat.and_two_pow_sub_one_eq_mod p 3]
theorem DX {a b : Nat} (ha : a < 256) (hb : b < 256) : BV .u8 (a : Int) (b : Int) = ((a ||| b : Nat) : Int) := by
  show IntKind.u8.wrap ((BitVec.ofInt 8 (a : Int) ||| BitVec.ofInt 8 (b : Int)).toNat : Int) = _
  simp only [ZG, BitVec.toNat_or, BitVec.toNat_ofNat]
  rw [Nat.mod_eq_of_lt (by omega), Nat.mod_eq_of_lt (by omega)]
  have : a ||| b < 2 ^ 8 := Nat.or_lt_two_pow (by omega) (by omega)
  exact zB (by omega) (by omega)
def cb : Nat → Nat → List Int
  | 0, _ => []
  | n + 1, c => ((c / 2 ^ n % 2 : Nat) : Int) :: cb n c
theorem Zs : ∀ n c, (cb n c).length = n
  | 0, _ => rfl
  | n + 1, c => by rw [cb, List.length_cons, Zs n]
theorem Kk : ∀ n c, x3 (cb n c)
  | 0, _ => by intro b hb; cases hb
  | n + 1, c => by
    intro b hb
    rw [cb] at hb
    rcases List.mem_cons.1 hb with rfl | hb
    · omega
    · exact Kk n c b hb
theorem DI (l : List Int) (i : Nat) : ∀ d, ks l i ≤ ks l (i + d)
  | 0 => Nat.le_refl _
  | d + 1 => Nat.le_trans (DI l i d) (by rw [← Nat.add_assoc, ks]; exact Nat.le_add_right _ _)
theorem DY {l : List Int} (h : z1 l = 0) : ks l 16 ≤ 32768 := by
  rcases ZX h with hz | hz | hz
  · rw [(Y5 (xD h)).2 hz]; omega
  · have hc : ∀ i, c0 l i = if i = 1 then 1 else 0 := by
      intro i
      by_cases h0 : 0 < i
      · rw [Kj h0, hz, List.count_singleton]
        by_cases h1 : i = 1
        · subst h1; rfl
        · rw [if_neg h1, if_neg (by simp; omega)]
      · rw [show i = 0 by omega]; rfl
    have : ∀ i, ks l i = if i ≤ 1 then 0 else 16384 := by
      intro i
      induction i with
      | zero => rfl
      | succ i ih =>
        rw [ks, ih, hc]
        by_cases h1 : i = 1
        · subst h1; rfl
        · rw [if_neg h1]
          by_cases h2 : i ≤ 1
          · rw [if_pos h2, if_pos (by omega)]; omega
          · rw [if_neg h2, if_neg (by omega)]; omega
    rw [this]; decide
  · omega
theorem V2 {l : List Int} (h : z1 l = 0) {s n : Nat} (hs : s < l.length) (hl : l[s] = (n : Int)) (hn : 0 < n) : y7 l s < 2 ^ n := by
  have hok := xD h
  have hn15 : n ≤ 15 := by have := (hok.2 l[s] (List.getElem_mem hs)).2; omega
  have h1 := (YS hs hl hn).1
  have h2 := KG l n hn15
  have h3 : ks l (n + 1) ≤ 32768 := by
    have := DI l (n + 1) (15 - n)
    rw [show n + 1 + (15 - n) = 16 by omega] at this
    exact Nat.le_trans this (DY h)
  have h4 : 2 ^ n * 2 ^ (15 - n) = 32768 := by rw [← Nat.pow_add, show n + (15 - n) = 15 by omega]
  have h5 : yV l n + c0 l n ≤ 2 ^ n := Nat.le_of_mul_le_mul_right (by omega) (Nat.pow_pos (n := 15 - n) (show 0 < 2 by decide))
  omega
theorem JS {l : List Int} (h : z1 l = 0) {t : List UInt8} {p s n : Nat} (hs : s < l.length) (hl : l[s] = (n : Int)) (hn : 0 < n)
    (hb : ∀ j, j < n → (jL t (p + j)).toNat = y7 l s / 2 ^ (n - 1 - j) % 2) (ht : p + n ≤ 8 * t.length) :
    ∀ (k m : Nat), m < n → n ≤ m + k → jv l t k m (y7 l s / 2 ^ (n - m)) (p + m) = .ok (s, p + n) := by
  have hok := xD h
  have hn15 : n ≤ 15 := by have := (hok.2 l[s] (List.getElem_mem hs)).2; omega
  intro k
  induction k with
  | zero => intro m h1 h2; omega
  | succ k ih =>
    intro m h1 h2
    unfold jv
    rw [if_pos (Ug (n := m) h1 (by omega) hs hl), if_pos (by omega)]
    have hv : 2 * (y7 l s / 2 ^ (n - m)) + (jL t (p + m)).toNat = y7 l s / 2 ^ (n - (m + 1)) := by
      rw [hb m h1, show n - 1 - m = n - (m + 1) by omega, show n - m = (n - (m + 1)) + 1 by omega, Nat.pow_succ, ← Nat.div_div_eq_div_mul]
      omega
    rw [hv]
    have hc := YS hs hl hn
    by_cases he : m + 1 = n
    · subst he
      rw [Nat.sub_self, Nat.pow_zero, Nat.div_one, if_pos hc.1]
      obtain ⟨i, hi, hil, hin, hic⟩ := Zn (l := l) (n := m + 1) (r := y7 l s - yV l (m + 1)) (by omega) (by omega) (by omega)
      have := V1 hil hs hin hl hn (by omega)
      subst this
      rw [show (yq l (m + 1)).length + y7 l i - yV l (m + 1) = (yq l (m + 1)).length + (y7 l i - yV l (m + 1)) by omega, List.getD_eq_getElem?_getD, hi]
      simp [Nat.add_assoc]
    · have hge : yV l (m + 1) + c0 l (m + 1) ≤ y7 l s / 2 ^ (n - (m + 1)) := by
        have := DV l (m + 1) (n - (m + 1) - 1)
        rw [show m + 1 + (n - (m + 1) - 1) + 1 = n by omega, show n - (m + 1) - 1 + 1 = n - (m + 1) by omega] at this
        exact (Nat.le_div_iff_mul_le (Nat.pow_pos (by decide))).2 (by omega)
      rw [if_neg (by omega)]
      exact ih (m + 1) (by omega) (by omega)
theorem VO {l : List Int} (h : z1 l = 0) {t : List UInt8} {p s n : Nat} (hs : s < l.length) (hl : l[s] = (n : Int)) (hn : 0 < n)
    (hb : ∀ j, j < n → (jL t (p + j)).toNat = y7 l s / 2 ^ (n - 1 - j) % 2) (ht : p + n ≤ 8 * t.length) : uu l t p = .ok (s, p + n) := by
  have hn15 : n ≤ 15 := by have := ((xD h).2 l[s] (List.getElem_mem hs)).2; omega
  have := JS h hs hl hn hb ht 16 0 hn (by omega)
  rw [Nat.sub_zero, Nat.div_eq_of_lt (V2 h hs hl hn)] at this
  exact this
theorem Kl : ∀ (n c j : Nat), j < n → (cb n c).getD j 0 = ((c / 2 ^ (n - 1 - j) % 2 : Nat) : Int)
  | 0, _, _, h => by omega
  | n + 1, c, 0, _ => by rw [cb]; simp
  | n + 1, c, j + 1, h => by
    rw [cb, List.getD_cons_succ, Kl n c j (by omega), show n + 1 - 1 - (j + 1) = n - 1 - j by omega]
def sb (l : List Int) (s : Nat) : List Int := cb (l.getD s 0).toNat (y7 l s)
theorem VP {l : List Int} (h : z1 l = 0) {A C : List Int} {s n : Nat} (hA : x3 A) (hC : x3 C) (hs : s < l.length) (hl : l[s] = (n : Int)) (hn : 0 < n) :
    uu l (xY (A ++ sb l s ++ C)) A.length = .ok (s, A.length + n) := by
  have hsb : sb l s = cb n (y7 l s) := by unfold sb; rw [xg hs, hl, Int.toNat_natCast]
  rw [hsb]
  have h01 : x3 (A ++ cb n (y7 l s) ++ C) := z8 (z8 hA (Kk _ _)) hC
  refine VO h hs hl hn (fun j hj => ?_) ?_
  · rw [Yl h01 (by simp only [List.length_append, Zs]; omega)]
    have e : (A ++ cb n (y7 l s) ++ C).getD (A.length + j) 0 = ((y7 l s / 2 ^ (n - 1 - j) % 2 : Nat) : Int) := by
      rw [← Kl n _ j hj, List.append_assoc, List.getD_eq_getElem?_getD, List.getElem?_append_right (by omega), Nat.add_sub_cancel_left, List.getElem?_append_left (by rw [Zs]; exact hj), List.getD_eq_getElem?_getD]
    rw [e]
    have : y7 l s / 2 ^ (n - 1 - j) % 2 < 2 := Nat.mod_lt _ (by decide)
    generalize y7 l s / 2 ^ (n - 1 - j) % 2 = x at this ⊢
    rcases (show x = 0 ∨ x = 1 by omega) with rfl | rfl <;> rfl
  · rw [uL]
    simp only [List.length_append, Zs]; omega
end Go.Pu

namespace Go.Pu
open Go Go.Sl Go.Mo
theorem z9 {i : Int} {n : Nat} (h0 : 0 ≤ i) (h1 : i < (n : Int)) : inb i n = true := uk.2 ⟨h0, h1⟩
theorem zn {lo hi : Int} {n : Nat} (h0 : 0 ≤ lo) (h1 : lo ≤ hi) (h2 : hi ≤ (n : Int)) : subok lo hi n = true := uO.2 ⟨h0, h1, h2⟩
theorem zg {n k : Nat} (h : n * k ≤ 140737488355328) : room n k = true := decide_eq_true h
theorem zR {n : Nat} (h : n ≤ 9223372036854775807) : GX n = true := decide_eq_true h
theorem zX {x : Int} (h : 0 ≤ x) : decide (0 ≤ x) = true := decide_eq_true h
section
variable {α : Type}
theorem qq {p : Prop} [Decidable p] (a b : α) : cond (decide p) a b = if p then a else b := by
  by_cases h : p <;> simp [h]
theorem qZ {x y : Int} (a b : α) : cond (x == y) a b = if x = y then a else b := by
  by_cases h : x = y
  · rw [if_pos h, beq_iff_eq.2 h]; rfl
  · rw [if_neg h, beq_eq_false_iff_ne.2 h]; rfl
theorem zw {x y : Int} (a b : α) : cond (x != y) a b = if x = y then b else a := by
  by_cases h : x = y
  · rw [if_pos h, bne_eq_false_iff_eq.2 h]; rfl
  · rw [if_neg h, bne_iff_ne.2 h]; rfl
theorem zu (x : Bool) (a b : α) : cond (!x) a b = cond x b a := by cases x <;> rfl
theorem zo (x y : Bool) (a b : α) : cond (x && y) a b = cond x (cond y a b) b := by cases x <;> rfl
theorem zQ (x y : Bool) (a b : α) : cond (x || y) a b = cond x a (cond y a b) := by cases x <;> rfl
end
end Go.Pu

namespace Go.Pu
open Go Go.Sl Go.Mo
theorem um (l : List UInt8) : (l.map uB).map Q5 = l := by
  rw [List.map_map]
  have : (Q5 ∘ uB) = id := by funext x; simp [Q5, uB]
  rw [this, List.map_id]
theorem yT {n : Nat} (h : n < 256) : uB (UInt8.ofNat n) = (n : Int) := by
  unfold uB
  have : (UInt8.ofNat n).toNat = n % 256 := by simp
  rw [this, Nat.mod_eq_of_lt h]
theorem X8 {α : Type} (s : List α) (n : Nat) : sub s 0 (n : Int) = s.take n := by simp [sub]
theorem Vf {α : Type} (s : List α) (n : Nat) : sub s (n : Int) (s.length : Int) = s.drop n := by
  simp only [sub, Int.toNat_natCast]
  exact List.take_of_length_le (by simp)
end Go.Pu

set_option maxRecDepth 100000
namespace Go.Pu
open Go Go.Sl Go.Mo
theorem JR (B : List Int) (p a : Nat) : ∀ b, nB B p (a + b) = nB B p a + 2 ^ a * nB B (p + a) b
  | 0 => by simp [nB]
  | b + 1 => by
    rw [← Nat.add_assoc, nB, JR B p a b, nB, Nat.mul_add, Nat.pow_add, Nat.add_assoc p a b]
    have : 2 ^ a * ((B.getD (p + (a + b)) 0).toNat * 2 ^ b) = (B.getD (p + (a + b)) 0).toNat * (2 ^ a * 2 ^ b) := by
      rw [Nat.mul_left_comm]
    omega
theorem D1 {B : List Int} {n v : Nat} (hr : B.length % 8 + n ≤ 8) (hv : v < 2 ^ n) : nB (B ++ qV n v) (8 * (B.length / 8)) 8 = nB B (8 * (B.length / 8)) 8 + v * 2 ^ (B.length % 8) := by
  have e0 : 8 * (B.length / 8) + B.length % 8 = B.length := by omega
  have h1 := JR (B ++ qV n v) (8 * (B.length / 8)) (B.length % 8) (8 - B.length % 8)
  have h0 := Jb B (qV n v) (8 * (B.length / 8)) (B.length % 8) (by omega)
  rw [show B.length % 8 + (8 - B.length % 8) = 8 from by omega, h0, e0] at h1
  have h2 := Vy B (qV n v) 0 (8 - B.length % 8)
  rw [Nat.add_zero] at h2
  have h3 : nB (qV n v) 0 (8 - B.length % 8) = nB (qV n v) 0 n := QE 0 n _ (by omega) (by rw [xi]; omega)
  have h4 := YA [] n v
  rw [List.append_nil, Nat.mod_eq_of_lt hv] at h4
  rw [h1, h2, h3, h4, QE (8 * (B.length / 8)) (B.length % 8) 8 (by omega) (by omega), Nat.mul_comm v]
theorem JQ {B : List Int} (h : x3 B) {n v : Nat} (hr : B.length % 8 + n ≤ 8) (hv : v < 2 ^ n) : nB (B ++ qV n v) (8 * (B.length / 8)) 8 = nB B (8 * (B.length / 8)) 8 ||| v * 2 ^ (B.length % 8) := by
  rw [D1 hr hv, QE (8 * (B.length / 8)) (B.length % 8) 8 (by omega) (by omega)]
  have hlt := YB h (8 * (B.length / 8)) (B.length % 8)
  have := Nat.two_pow_add_eq_or_of_lt (i := B.length % 8) (b := nB B (8 * (B.length / 8)) (B.length % 8)) hlt v
  rw [Nat.mul_comm v, Nat.add_comm, this, Nat.or_comm]
theorem UC {B : List Int} (h : x3 B) {n v : Nat} (hn : 1 ≤ n) (hr : B.length % 8 + n ≤ 8) (hv : v < 2 ^ n) :
    (if B.length % 8 = 0 then y4 B ++ [0] else y4 B).set (B.length / 8) ((nB B (8 * (B.length / 8)) 8 ||| v * 2 ^ (B.length % 8) : Nat) : Int) = y4 (B ++ qV n v) := by
  have hl : ((B ++ qV n v).length + 7) / 8 = B.length / 8 + 1 := by rw [List.length_append, xi]; omega
  have other : ∀ j, j < B.length / 8 → nB (B ++ qV n v) (8 * j) 8 = nB B (8 * j) 8 := fun j hj => Jb B _ _ _ (by omega)
  unfold y4
  rw [hl]
  split
  · rename_i h0
    rw [show (B.length + 7) / 8 = B.length / 8 by omega, List.range_succ, List.map_append]
    apply List.ext_getElem?
    intro j
    by_cases hj : B.length / 8 = j
    · subst hj
      rw [List.getElem?_set_self (by simp), List.getElem?_append_right (by simp)]
      simp [JQ h hr hv]
    · rw [List.getElem?_set_ne hj]
      by_cases hlt : j < B.length / 8
      · rw [List.getElem?_append_left (by simpa using hlt), List.getElem?_append_left (by simpa using hlt)]
        simp only [List.getElem?_map, List.getElem?_range hlt, Option.map_some, other j hlt]
      · rw [List.getElem?_append_right (by simpa using Nat.le_of_not_lt hlt), List.getElem?_append_right (by simpa using Nat.le_of_not_lt hlt)]
        rw [List.getElem?_eq_none (by simp; omega), List.getElem?_eq_none (by simp; omega)]
  · rename_i h0
    rw [show (B.length + 7) / 8 = B.length / 8 + 1 by omega]
    apply List.ext_getElem?
    intro j
    by_cases hj : B.length / 8 = j
    · subst hj
      rw [List.getElem?_set_self (by simp), List.getElem?_map, List.getElem?_range (by omega), Option.map_some, JQ h hr hv]
    · rw [List.getElem?_set_ne hj]
      by_cases hlt : j < B.length / 8
      · simp only [List.getElem?_map, List.getElem?_range (show j < B.length / 8 + 1 by omega), Option.map_some, other j hlt]
      · rw [List.getElem?_eq_none (by simp; omega), List.getElem?_eq_none (by simp; omega)]
theorem Kz {a b : Nat} (ha : a < 4294967296) (hb : b < 4294967296) : ye .u32 (a : Int) (b : Int) = ((a &&& b : Nat) : Int) := by
  show IntKind.u32.wrap ((BitVec.ofInt 32 (a : Int) &&& BitVec.ofInt 32 (b : Int)).toNat : Int) = _
  simp only [ZG, BitVec.toNat_and, BitVec.toNat_ofNat]
  rw [Nat.mod_eq_of_lt (by omega), Nat.mod_eq_of_lt (by omega)]
  have : a &&& b ≤ a := Nat.and_le_left
  exact zc (by omega) (by omega)
theorem Df (K : Nat) : ∀ (k n : Nat) (v : Nat) (B : List Int), x3 B → n < k → n ≤ 32 → v < 2 ^ n → B.length + n < 1099511627776 →
    qn.l1 K k (B.length : Int) (y4 B) (v : Int) (n : Int) = .ok (0, ((B ++ qV n v).length : Int), y4 (B ++ qV n v)) := by
  intro k
  induction k with
  | zero => intro n v B _ h; omega
  | succ k ih =>
    intro n v B h hk hn hv hl
    rw [qn.l1, qq]
    by_cases hn0 : n = 0
    · subst hn0
      rw [if_neg (by omega)]
      simp [qV]
    rw [if_pos (by omega), Gn B.length (by omega)]
    have e8 : xA .i64 (B.length : Int) 8 = ((B.length / 8 : Nat) : Int) := by
      have := vQ (a := B.length) (b := 8) (by omega) (by omega)
      rwa [show ((8 : Nat) : Int) = 8 from rfl] at this
    obtain ⟨m, hm⟩ : ∃ m, min n (8 - B.length % 8) = m := ⟨_, rfl⟩
    have hm1 : 1 ≤ m := by omega
    have hp32 : 2 ^ n ≤ 2 ^ 32 := Nat.pow_le_pow_right (by decide) hn
    have hpm : 2 ^ m ≤ 2 ^ 8 := Nat.pow_le_pow_right (by decide) (by omega)
    have hpm1 : 1 ≤ 2 ^ m := Nat.one_le_two_pow
    have hv32 : v < 4294967296 := by omega
    have step : ∀ W : List Int, W = (if B.length % 8 = 0 then y4 B ++ [0] else y4 B) →
        qn.j2 K (qn.l1 K k) (B.length : Int) (v : Int) (n : Int) W = .ok (0, ((B ++ qV n v).length : Int), y4 (B ++ qV n v)) := by
      intro W hW
      have hWl : W.length = B.length / 8 + 1 := by
        rw [hW]; split
        · rw [List.length_append, uC]; simp; omega
        · rw [uC]; omega
      have hWr : rd W ((B.length / 8 : Nat) : Int) = ((nB B (8 * (B.length / 8)) 8 : Nat) : Int) := by
        rw [hW]; split
        · rename_i h0
          rw [yr (by rw [List.length_append, uC]; simp; omega), List.getElem_append_right (by rw [uC]; omega)]
          rw [QE _ 0 8 (by omega) (by omega)]
          simp [nB]
        · rename_i h0
          exact BF (by omega)
      unfold qn.j2
      rw [Gn B.length (by omega), e8]
      have e1 : qi ((8 : Int) - ((B.length % 8 : Nat) : Int)) = ((8 - B.length % 8 : Nat) : Int) := by rw [qs (by omega) (by omega)]; omega
      have e2 : (if (n : Int) < ((8 - B.length % 8 : Nat) : Int) then (n : Int) else ((8 - B.length % 8 : Nat) : Int)) = (m : Int) := by split <;> omega
      rw [e1, e2, qF, z4 (by rw [hWl]; omega), qf, zX (by omega), qf, zX (by omega), qf, hWr, Int.toNat_natCast, qF]
      have e3 : xl .u32 1 (m : Int) = ((2 ^ m : Nat) : Int) := by
        have := XI (a := 1) (n := m) (by omega) (by omega)
        rw [show ((1 : Nat) : Int) = 1 from rfl] at this
        rw [this, Nat.one_mul]
      have e4 : wr .u8 (ye .u32 (v : Int) (wr .u32 (xl .u32 1 (m : Int) - 1))) = ((v % 2 ^ m : Nat) : Int) := by
        rw [e3, show (((2 ^ m : Nat) : Int) - 1) = ((2 ^ m - 1 : Nat) : Int) from by omega, zc (by omega) (by omega), Kz hv32 (by omega), Nat.and_two_pow_sub_one_eq_mod]
        have := Nat.mod_lt v (show 2 ^ m > 0 from by omega)
        exact zB (by omega) (by omega)
      have hvm := Nat.mod_lt v (show 2 ^ m > 0 from by omega)
      have hlt := YB h (8 * (B.length / 8)) 8
      have hp8 : v % 2 ^ m * 2 ^ (B.length % 8) < 256 := by
        have h1 : v % 2 ^ m * 2 ^ (B.length % 8) < 2 ^ m * 2 ^ (B.length % 8) := Nat.mul_lt_mul_of_pos_right hvm (Nat.two_pow_pos _)
        rw [← Nat.pow_add] at h1
        have h2 : 2 ^ (m + B.length % 8) ≤ 2 ^ 8 := Nat.pow_le_pow_right (by decide) (by omega)
        omega
      have e5 : xF .u32 (v : Int) (m : Int) = ((v / 2 ^ m : Nat) : Int) := ja (by show m ≤ 32; omega)
      rw [e4, Ub (by omega) hp8, DX (by omega) hp8, hW, UC h hm1 (by omega) hvm, e5, qF, qF]
      have e6 : qi ((n : Int) - (m : Int)) = ((n - m : Nat) : Int) := by rw [qs (by omega) (by omega)]; omega
      have e7 : qi ((B.length : Int) + (m : Int)) = ((B ++ qV m (v % 2 ^ m)).length : Int) := by rw [qs (by omega) (by omega), List.length_append, xi]; omega
      have hdiv : v / 2 ^ m < 2 ^ (n - m) := by
        rw [Nat.div_lt_iff_lt_mul (by omega), ← Nat.pow_add, show n - m + m = n from by omega]; exact hv
      rw [e6, e7, ih (n - m) (v / 2 ^ m) _ (z8 h (xB _ _)) (by omega) (by omega) hdiv (by rw [List.length_append, xi]; omega)]
      have hb : qV n v = qV m (v % 2 ^ m) ++ qV (n - m) (v / 2 ^ m) := by
        rw [Xq m v m (Nat.le_refl _), ← QT, show m + (n - m) = n from by omega]
      rw [hb, List.append_assoc]
    by_cases h0 : B.length % 8 = 0
    · rw [h0, show (((0 : Nat) : Int) == 0) = true from rfl, cond_true, zg (by rw [uC]; simp only [List.length_cons, List.length_nil]; omega), qf, qF]
      exact step _ (by rw [if_pos h0])
    · have : (((B.length % 8 : Nat) : Int) == 0) = false := by rw [beq_eq_false_iff_ne]; omega
      rw [this, cond_false]
      exact step _ (by rw [if_neg h0])
theorem Yi (K : Nat) (B : List Int) (h : x3 B) (n v : Nat) (hn : n ≤ 32) (hv : v < 2 ^ n) (hl : B.length + n < 1099511627776) (hK : 32 < K) (lc dc : qu) :
    qn.m K ⟨⟨⟨(B.length : Int)⟩, y4 B⟩, lc, dc⟩ (v : Int) (n : Int) = .ok (0, ((B ++ qV n v).length : Int), y4 (B ++ qV n v)) := by
  unfold qn.m
  have hp32 : 2 ^ n ≤ 2 ^ 32 := Nat.pow_le_pow_right (by decide) hn
  have d0 : (decide ((n : Int) < 0) || decide ((n : Int) > 32)) = false := by simp only [Bool.or_eq_false_iff, decide_eq_false_iff_not]; omega
  have d1 : xF .u64 (wr .u64 (v : Int)) (n : Int) = 0 := by
    rw [ze (by omega) (by omega), ja (by show n ≤ 64; omega), Nat.div_eq_of_lt hv]; rfl
  rw [d0, d1, show imp false false (decide ((0 : Int) ≤ (n : Int))) = true from by rw [zX (by omega)]; rfl, qf, show (false || decide ((0 : Int) > 0)) = false from rfl, cond_false]
  exact Df K K n v B h (by omega) hn hv hl
end Go.Pu

namespace Go.Pu
open Go Go.Sl Go.Mo
def G3 {α β : Type} (f : β → α) : Except Int β → qN α
  | .ok b => .ok (f b)
  | .error e => if e = -1 then .fail else .pan (.iface uv (.agg ⟨[.int .i64 e]⟩))
def two (x : Nat × Nat) : Int × Int := ((x.1 : Int), (x.2 : Int))
theorem xn {t : List UInt8} {p n : Nat} {e : Int} (h : x5 t p n = .error e) : e = 2 := by
  unfold x5 at h
  split at h
  · cases h
  · cases h; rfl
theorem jw {l : List Int} {t : List UInt8} {k : Nat} : ∀ {n v p : Nat} {e : Int}, jv l t k n v p = .error e → e = 2 ∨ e = 3 := by
  induction k with
  | zero => intro n v p e h; rw [jv] at h; cases h; exact .inr rfl
  | succ k ih =>
    intro n v p e h
    rw [jv] at h
    split at h
    · split at h
      · split at h
        · cases h
        · exact ih h
      · cases h; exact .inl rfl
    · cases h; exact .inr rfl
theorem xj {t : List UInt8} {p n v q : Nat} (h : x5 t p n = .ok (v, q)) : v = XL t p n ∧ q = p + n ∧ q ≤ 8 * t.length := by
  unfold x5 at h
  split at h
  · cases h; exact ⟨rfl, rfl, by assumption⟩
  · cases h
theorem jB {l : List Int} {t : List UInt8} {k : Nat} : ∀ {n v p s q : Nat}, jv l t k n v p = .ok (s, q) → p < q ∧ q ≤ 8 * t.length := by
  induction k with
  | zero => intro n v p s q h; rw [jv] at h; cases h
  | succ k ih =>
    intro n v p s q h
    rw [jv] at h
    split at h
    · split at h
      · split at h
        · obtain ⟨_, h2⟩ := Prod.mk.inj (Except.ok.inj h)
          exact ⟨by omega, by omega⟩
        · have := ih h; exact ⟨by omega, this.2⟩
      · cases h
    · cases h
end Go.Pu

namespace Go.Pu
open Go Go.Sl Go.Mo
def y5 (s : List UInt8) (i : Nat) : Nat := (s.getD i 0).toNat
theorem Q6 (s : List UInt8) (i : Nat) : y5 s i < 256 := (s.getD i 0).toNat_lt
theorem Xe {s : List UInt8} {i : Nat} : ((rd s (i : Int)).toNat : Int) = (y5 s i : Int) := by
  simp only [rd, y5, Int.toNat_natCast]; rfl
def jI (t : List UInt8) (L p : Nat) (out : List Int) : Except Int (Nat × List Int) :=
  match jg t p 4 with
  | .error e => .error e
  | .ok (h, q) =>
    if y5 h 2 + 256 * y5 h 3 = 65535 - (y5 h 0 + 256 * y5 h 1) then
      match jg t q (y5 h 0 + 256 * y5 h 1) with
      | .error e => .error e
      | .ok (s, q') => if out.length + (y5 h 0 + 256 * y5 h 1) ≤ L then .ok (q', out ++ s.map uB) else .error 11
    else .error 3
theorem u2 {t : List UInt8} {p n : Nat} {e : Int} (h : jg t p n = .error e) : e = 2 := by
  unfold jg at h
  split at h
  · cases h
  · cases h; rfl
theorem QG {t : List UInt8} {p n : Nat} {s : List UInt8} {q : Nat} (h : jg t p n = .ok (s, q)) : s.length = n ∧ q = 8 * ((p + 7) / 8 + n) ∧ q ≤ 8 * t.length := by
  unfold jg at h
  split at h
  · obtain ⟨h1, h2⟩ := Prod.mk.inj (Except.ok.inj h)
    subst h1; subst h2
    refine ⟨?_, rfl, by omega⟩
    simp; omega
  · cases h
end Go.Pu
namespace Go.Pu
open Go Go.Sl Go.Mo
end Go.Pu

namespace Go.Pu
open Go Go.Sl Go.Mo
def uI (m : qN (Int × Int × List Int)) (s : Except Int (Nat × List Int)) : Prop :=
  match s with
  | .ok (q, out) => m = .ok (0, (q : Int), out)
  | .error e => if e = -1 then m = .fail else ∃ p out, m = .ok (e, p, out) ∧ e ≠ 0
theorem Yj {a b : Nat} (ha : a < 256) (hb : b < 256) : qi (wr .i64 (a : Int) + qi (256 * wr .i64 (b : Int))) = ((a + 256 * b : Nat) : Int) := by
  rw [zl (by omega) (by omega), zl (by omega) (by omega), qs (x := 256 * (b : Int)) (by omega) (by omega), qs (by omega) (by omega)]
  omega
theorem U0 (K : Nat) (t : List UInt8) (L p : Nat) (out : List Int) (hp : p ≤ 8 * t.length) (hl : t.length < 140737488355328) (ho : out.length < 1099511627776) (hL : L < 140737488355328) (hoL : out.length ≤ L) (hK : 8 < K) :
    uI (xR.m K ⟨⟨t, p⟩, out, L⟩) (jI t L p out) := by
  unfold xR.m jI
  have hb := J6 K t p 4 hp hl (by omega) hK
  rw [show ((4 : Nat) : Int) = 4 from rfl] at hb
  dsimp only
  rw [hb]
  cases h : jg t p 4 with
  | error e =>
    have he := u2 h
    subst he
    exact ⟨_, _, rfl, by decide⟩
  | ok x =>
    obtain ⟨s, q⟩ := x
    obtain ⟨hs, _, hq⟩ := QG h
    have z : ((0 : Int) != 0) = false := rfl
    simp only [qN.bind_ok, z, cond_false]
    rw [show inb 0 s.length = true from z4 (i := 0) (by omega), show inb 1 s.length = true from z4 (i := 1) (by omega), show inb 2 s.length = true from z4 (i := 2) (by omega), show inb 3 s.length = true from z4 (i := 3) (by omega)]
    simp only [qf, qF]
    have r0 : ((rd s 0).toNat : Int) = (y5 s 0 : Int) := Xe (i := 0)
    have r1 : ((rd s 1).toNat : Int) = (y5 s 1 : Int) := Xe (i := 1)
    have r2 : ((rd s 2).toNat : Int) = (y5 s 2 : Int) := Xe (i := 2)
    have r3 : ((rd s 3).toNat : Int) = (y5 s 3 : Int) := Xe (i := 3)
    have l0 := Q6 s 0
    have l1 := Q6 s 1
    have l2 := Q6 s 2
    have l3 := Q6 s 3
    rw [r0, r1, r2, r3, Yj l0 l1, Yj l2 l3]
    generalize hn : y5 s 0 + 256 * y5 s 1 = n
    generalize hm : y5 s 2 + 256 * y5 s 3 = m
    have hn16 : n < 65536 := by omega
    have e0 : qi (65535 - (n : Int)) = ((65535 - n : Nat) : Int) := by rw [qs (by omega) (by omega)]; omega
    rw [e0]
    by_cases hc : m = 65535 - n
    · have h1 : (((m : Nat) : Int) != ((65535 - n : Nat) : Int)) = false := by rw [bne_eq_false_iff_eq, hc]
      rw [h1, cond_false, if_pos hc]
      have hb2 := J6 K t q n hq hl (by omega) hK
      rw [hb2]
      cases h2 : jg t q n with
      | error e =>
        have he := u2 h2
        subst he
        exact ⟨_, _, rfl, by decide⟩
      | ok y =>
        obtain ⟨s2, q2⟩ := y
        obtain ⟨hs2, _, hq2⟩ := QG h2
        simp only [qN.bind_ok, z, cond_false]
        have e1 : qi ((L : Int) - (out.length : Int)) = ((L - out.length : Nat) : Int) := by rw [qs (by omega) (by omega)]; omega
        rw [e1]
        by_cases hL2 : out.length + n ≤ L
        · have h3 : decide ((n : Int) > ((L - out.length : Nat) : Int)) = false := by simp only [decide_eq_false_iff_not]; omega
          rw [h3, cond_false, if_pos hL2]
          have h4 : room (out.length + s2.length) 1 = true := by simp only [room, decide_eq_true_eq]; omega
          rw [h4]
          rfl
        · have h3 : decide ((n : Int) > ((L - out.length : Nat) : Int)) = true := by simp only [decide_eq_true_eq]; omega
          rw [h3, cond_true, if_neg hL2]
          exact ⟨_, _, rfl, by decide⟩
    · have h1 : (((m : Nat) : Int) != ((65535 - n : Nat) : Int)) = true := by rw [bne_iff_ne]; omega
      rw [h1, cond_true, if_neg hc]
      exact ⟨_, _, rfl, by decide⟩
end Go.Pu

namespace Go.Pu
open Go Go.Sl Go.Mo
def lenT : List (Nat × Nat) := tab_inflate_lengths.map fun r => (r.from_.toNat, r.bits_.toNat)
def dstT : List (Nat × Nat) := tab_inflate_distances.map fun r => (r.from_.toNat, r.bits_.toNat)
def lenOf (x : Nat) : Nat × Nat := lenT.getD (x - 257) (0, 0)
def x7 (x : Nat) : Nat × Nat := dstT.getD x (0, 0)
def ue : Nat → Nat → List Int → List Int
  | 0, _, out => out
  | n + 1, b, out => ue n b (out ++ [out.getD (out.length - b) 0])
def vn (t : List UInt8) (L : Nat) (dl : List Int) (x p : Nat) (out : List Int) : Except Int (Nat × List Int) :=
  if x ≤ 285 then
    match x5 t p (lenOf x).2 with
    | .error e => .error e
    | .ok (v, p1) =>
      match uu dl t p1 with
      | .error e => .error e
      | .ok (d, p2) =>
        if d ≤ 29 then
          match x5 t p2 (x7 d).2 with
          | .error e => .error e
          | .ok (u, p3) =>
            if (x7 d).1 + u ≤ out.length then
              if out.length + ((lenOf x).1 + v) ≤ L then .ok (p3, ue ((lenOf x).1 + v) ((x7 d).1 + u) out) else .error 11
            else .error 3
        else .error 3
  else .error 3
def vp (t : List UInt8) (L : Nat) (ll dl : List Int) : Nat → Nat → List Int → Except Int (Nat × List Int)
  | 0, _, _ => .error (-1)
  | k + 1, p, out =>
    match uu ll t p with
    | .error e => .error e
    | .ok (x, q) =>
      if x = 256 then .ok (q, out)
      else if x < 256 then (if out.length < L then vp t L ll dl k q (out ++ [(x : Int)]) else .error 11)
      else match vn t L dl x q out with
        | .error e => .error e
        | .ok (q', out') => vp t L ll dl k q' out'
theorem QC : ∀ n b out, (ue n b out).length = out.length + n
  | 0, _, _ => rfl
  | n + 1, b, out => by rw [ue, QC n b]; simp; omega
theorem KL : ∀ k, k < 29 → (lenOf (257 + k)).1 ≤ 258 ∧ 3 ≤ (lenOf (257 + k)).1 ∧ (lenOf (257 + k)).2 ≤ 5 := by decide
theorem Kr : ∀ k, k < 30 → (x7 k).1 ≤ 24577 ∧ 1 ≤ (x7 k).1 ∧ (x7 k).2 ≤ 13 := by decide
theorem jH {l : List Int} {i : Nat} : rd l (i : Int) = l.getD i 0 := by
  simp only [rd, Int.toNat_natCast]; rfl
end Go.Pu

namespace Go.Pu
open Go Go.Sl Go.Mo
def LA {α : Type} (e : Int) : qN α := .pan (.iface uv (.agg ⟨[.int .i64 e]⟩))
def La (x : Nat × List Int) : Int × List Int := ((x.1 : Int), x.2)
theorem uc {t : List UInt8} {p n v q : Nat} (h : x5 t p n = .ok (v, q)) : v < 2 ^ n := by
  rw [(xj h).1]; exact VA t p n
end Go.Pu

namespace Go.Pu
open Go Go.Sl Go.Mo
theorem je (K : Nat) (t : List UInt8) (p n a : Nat) (out : List Int) (Ka : Int) (hn : n ≤ 32) (ha : a < 140737488355328) (hp : p ≤ 8 * t.length) (hl : t.length < 140737488355328) (hK : 32 < K) :
    zD.m K ⟨⟨t, p⟩, out, Ka⟩ n a = match x5 t p n with
      | .ok (v, q) => .ok (((a + v : Nat) : Int), 0, (q : Int))
      | .error e => .ok ((a : Int), e, (p : Int)) := by
  unfold zD.m
  dsimp only
  rw [Uq K t p n hn hp hl hK]
  cases h : x5 t p n with
  | error e => simp (disch := omega) only [qN.bind_ok, qN.bind_pan, qf, qF, zy, cond_true, cond_false, qq, qZ, zw, zu, zo, zQ, qs, zB, zc, ze, zl, z9, zn, zg, zR, zX, Int.toNat_natCast, Int.add_zero]
  | ok x =>
    obtain ⟨v, q⟩ := x
    have hlt := uc h
    have hpow : 2 ^ n ≤ 2 ^ 32 := Nat.pow_le_pow_right (by decide) hn
    simp (disch := omega) only [qN.bind_ok, qN.bind_pan, qf, qF, zy, cond_true, cond_false, qq, qZ, zw, zu, zo, zQ, qs, zB, zc, ze, zl, z9, zn, zg, zR, zX, Int.toNat_natCast, Int.natCast_add]
def GN (r : qN (Int × Int)) (a b : Nat) : Bool := match r with
  | .ok (x, y) => x == (a : Int) && y == (b : Int)
  | _ => false
theorem KB {r : qN (Int × Int)} {a b : Nat} (h : GN r a b = true) : r = .ok ((a : Int), (b : Int)) := by
  unfold GN at h
  split at h
  · simp only [Bool.and_eq_true, beq_iff_eq] at h; rw [h.1, h.2]
  · cases h
theorem ZJ (K : Nat) : ∀ k, k < 29 → xS.m K ((257 + k : Nat) : Int) = .ok (((lenOf (257 + k)).1 : Int), ((lenOf (257 + k)).2 : Int)) := by
  have h : ∀ k, k < 29 → GN (xS.m 0 ((257 + k : Nat) : Int)) (lenOf (257 + k)).1 (lenOf (257 + k)).2 = true := by decide +kernel
  intro k hk
  exact KB (h k hk)
theorem Qy (K : Nat) : ∀ k : Nat, k < 30 → xK.m K (k : Int) = .ok (((x7 k).1 : Int), ((x7 k).2 : Int)) := by
  have h : ∀ k : Nat, k < 30 → GN (xK.m 0 (k : Int)) (x7 k).1 (x7 k).2 = true := by decide +kernel
  intro k hk
  exact KB (h k hk)
theorem ZW (K : Nat) (n b : Nat) (q : Int) (hb : 0 < b) (hn : n < 140737488355328) : ∀ j k i out, i + j = n → j < k → b ≤ out.length → out.length + j < 140737488355328 →
    zM.l1 K (n : Int) (b : Int) q k out (i : Int) = .ok (0, q, ue j b out)
  | _, 0, _, _, _, h, _, _ => by omega
  | 0, k + 1, i, out, hi, _, _, _ => by
    rw [zM.l1]
    simp (disch := omega) only [qN.bind_ok, qN.bind_pan, qf, qF, zy, cond_true, cond_false, qq, qZ, zw, zu, zo, zQ, qs, zB, zc, ze, zl, z9, zn, zg, zR, zX, Int.toNat_natCast, if_neg, ue]
  | j + 1, k + 1, i, out, hi, hk, hbo, ho => by
    rw [zM.l1]
    have e : qi ((out.length : Int) - (b : Int)) = ((out.length - b : Nat) : Int) := by rw [qs (by omega) (by omega)]; omega
    rw [e, jH]
    have h1 : room (out.length + ([out.getD (out.length - b) 0] : List Int).length) 1 = true := zg (by simp; omega)
    rw [h1]
    simp (disch := omega) only [qN.bind_ok, qN.bind_pan, qf, qF, zy, cond_true, cond_false, qq, qZ, zw, zu, zo, zQ, qs, zB, zc, ze, zl, z9, zn, zg, zR, zX, Int.toNat_natCast, if_pos]
    have e2 : (i : Int) + 1 = ((i + 1 : Nat) : Int) := by push_cast; rfl
    rw [e2, ZW K n b q hb hn j k (i + 1) _ (by omega) (by omega) (by simp; omega) (by simp; omega), ue]
theorem y8 {m : qN (Int × Int × List Int)} {e p : Int} {out : List Int} (h : e = 2 ∨ e = 3 ∨ e = 11) (hm : m = .ok (e, p, out)) : uI m (.error e) := by
  unfold uI
  dsimp only
  rw [if_neg (by omega)]
  exact ⟨_, _, hm, by omega⟩
theorem Bi (K : Nat) (t : List UInt8) (L : Nat) (dl : List Int) (x p : Nat) (out : List Int) (hdl : z1 dl = 0) (hl : t.length < 140737488355328) (hL : L < 1073741825) (hK : 1000 < K) (hx : 256 < x) (hp : p ≤ 8 * t.length) (ho : out.length ≤ L) :
    uI (zM.m K ⟨⟨t, p⟩, out, L⟩ x ⟨dl, zP dl⟩) (vn t L dl x p out) := by
  unfold zM.m vn
  by_cases h3 : x ≤ 285
  · obtain ⟨k1, rfl⟩ : ∃ k1, x = 257 + k1 := ⟨x - 257, by omega⟩
    obtain ⟨b1, _, b2⟩ := KL k1 (by omega)
    simp (disch := omega) only [qN.bind_ok, qN.bind_pan, qf, qF, zy, cond_true, cond_false, qq, qZ, zw, zu, zo, zQ, qs, zB, zc, ze, zl, z9, zn, zg, zR, zX, Int.toNat_natCast, if_neg, h3, if_true, ZJ]
    rw [je K t p _ _ out L (by omega) (by omega) hp hl (by omega)]
    cases hv : x5 t p (lenOf (257 + k1)).2 with
    | error e =>
      have he := xn hv
      subst he
      exact y8 (.inl rfl) rfl
    | ok vq =>
      obtain ⟨v, q1⟩ := vq
      have hq1 := (xj hv).2.2
      have hv2 := uc hv
      have hv3 : 2 ^ (lenOf (257 + k1)).2 ≤ 2 ^ 5 := Nat.pow_le_pow_right (by decide) b2
      simp (disch := omega) only [qN.bind_ok, qN.bind_pan, qf, qF, zy, cond_true, cond_false, qq, qZ, zw, zu, zo, zQ, qs, zB, zc, ze, zl, z9, zn, zg, zR, zX, Int.toNat_natCast, if_true]
      rw [Jj K dl t q1 hdl hl (by omega) hq1]
      cases hd : uu dl t q1 with
      | error e => rcases jw hd with rfl | rfl <;> exact y8 (by decide) rfl
      | ok dq =>
        obtain ⟨d, q2⟩ := dq
        have hq2 := (jB hd).2
        simp (disch := omega) only [qN.bind_ok, qN.bind_pan, qf, qF, zy, cond_true, cond_false, qq, qZ, zw, zu, zo, zQ, qs, zB, zc, ze, zl, z9, zn, zg, zR, zX, Int.toNat_natCast, if_true]
        by_cases h4 : d ≤ 29
        · obtain ⟨b3, b4, b5⟩ := Kr d (by omega)
          simp (disch := omega) only [qN.bind_ok, qN.bind_pan, qf, qF, zy, cond_true, cond_false, qq, qZ, zw, zu, zo, zQ, qs, zB, zc, ze, zl, z9, zn, zg, zR, zX, Int.toNat_natCast, if_neg, h4, if_true, Qy]
          rw [je K t q2 _ _ out L (by omega) (by omega) hq2 hl (by omega)]
          cases hu : x5 t q2 (x7 d).2 with
          | error e =>
            have he := xn hu
            subst he
            exact y8 (.inl rfl) rfl
          | ok uq =>
            obtain ⟨u, q3⟩ := uq
            have hq3 := (xj hu).2.2
            simp (disch := omega) only [qN.bind_ok, qN.bind_pan, qf, qF, zy, cond_true, cond_false, qq, qZ, zw, zu, zo, zQ, qs, zB, zc, ze, zl, z9, zn, zg, zR, zX, Int.toNat_natCast, if_true]
            by_cases h5 : (x7 d).1 + u ≤ out.length
            · simp (disch := omega) only [qN.bind_ok, qN.bind_pan, qf, qF, zy, cond_true, cond_false, qq, qZ, zw, zu, zo, zQ, qs, zB, zc, ze, zl, z9, zn, zg, zR, zX, Int.toNat_natCast, if_neg, h5, if_true]
              by_cases h6 : out.length + ((lenOf (257 + k1)).1 + v) ≤ L
              · simp (disch := omega) only [qN.bind_ok, qN.bind_pan, qf, qF, zy, cond_true, cond_false, qq, qZ, zw, zu, zo, zQ, qs, zB, zc, ze, zl, z9, zn, zg, zR, zX, Int.toNat_natCast, if_neg, h6, if_true]
                rw [show (0 : Int) = ((0 : Nat) : Int) from rfl]
                exact ZW K _ _ _ (by omega) (by omega) ((lenOf (257 + k1)).1 + v) K 0 out (by omega) (by omega) h5 (by omega)
              · simp (disch := omega) only [qN.bind_ok, qN.bind_pan, qf, qF, zy, cond_true, cond_false, qq, qZ, zw, zu, zo, zQ, qs, zB, zc, ze, zl, z9, zn, zg, zR, zX, Int.toNat_natCast, if_pos, h6, if_false]
                exact y8 (by decide) rfl
            · simp (disch := omega) only [qN.bind_ok, qN.bind_pan, qf, qF, zy, cond_true, cond_false, qq, qZ, zw, zu, zo, zQ, qs, zB, zc, ze, zl, z9, zn, zg, zR, zX, Int.toNat_natCast, if_pos, h5, if_false]
              exact y8 (by decide) rfl
        · simp (disch := omega) only [qN.bind_ok, qN.bind_pan, qf, qF, zy, cond_true, cond_false, qq, qZ, zw, zu, zo, zQ, qs, zB, zc, ze, zl, z9, zn, zg, zR, zX, Int.toNat_natCast, if_pos, h4, if_false]
          exact y8 (by decide) rfl
  · simp (disch := omega) only [qN.bind_ok, qN.bind_pan, qf, qF, zy, cond_true, cond_false, qq, qZ, zw, zu, zo, zQ, qs, zB, zc, ze, zl, z9, zn, zg, zR, zX, Int.toNat_natCast, if_pos, h3, if_false]
    exact y8 (by decide) rfl
theorem ZM {t : List UInt8} {L : Nat} {dl : List Int} {x p q : Nat} {out o : List Int} (h : vn t L dl x p out = .ok (q, o)) : p < q ∧ q ≤ 8 * t.length ∧ o.length ≤ L := by
  unfold vn at h
  split at h
  · split at h
    · cases h
    · rename_i v p1 hv
      split at h
      · cases h
      · rename_i d p2 hd
        split at h
        · split at h
          · cases h
          · rename_i u p3 hu
            split at h
            · split at h
              · obtain ⟨h1, h2⟩ := Prod.mk.inj (Except.ok.inj h)
                subst h1; subst h2
                have a := xj hv
                have b := jB hd
                have c := xj hu
                rw [QC]
                omega
              · cases h
            · cases h
        · cases h
  · cases h
theorem XZ {t : List UInt8} {L : Nat} {dl : List Int} {x p : Nat} {out : List Int} {e : Int} (h : vn t L dl x p out = .error e) : e = 2 ∨ e = 3 ∨ e = 11 := by
  unfold vn at h
  split at h
  · split at h
    · rename_i hv; cases h; exact .inl (xn hv)
    · split at h
      · rename_i hd; cases h; rcases jw hd with rfl | rfl <;> decide
      · split at h
        · split at h
          · rename_i hu; cases h; exact .inl (xn hu)
          · split at h
            · split at h
              · cases h
              · cases h; decide
            · cases h; decide
        · cases h; decide
  · cases h; decide
theorem QR (K : Nat) (t : List UInt8) (L : Nat) (ll dl : List Int) (p0 : Int) (o0 : List Int) (hll : z1 ll = 0) (hdl : z1 dl = 0) (hl : t.length < 140737488355328) (hL : L < 1073741825) (hK : 1000 < K) : ∀ k p out, p ≤ 8 * t.length → out.length ≤ L →
    uI (zE.l1 K ⟨⟨t, p0⟩, o0, L⟩ ⟨ll, zP ll⟩ ⟨dl, zP dl⟩ k (p : Int) out) (vp t L ll dl k p out) :=
  by
  intro k
  induction k with
  | zero => intro p out _ _; exact rfl
  | succ k ih =>
    intro p out hp ho
    rw [zE.l1, vp]
    dsimp only
    rw [Jj K ll t p hll hl (by omega) hp]
    cases hx : uu ll t p with
    | error e => rcases jw hx with rfl | rfl <;> exact y8 (by decide) rfl
    | ok xq =>
      obtain ⟨x, q⟩ := xq
      have hq := (jB hx).2
      simp (disch := omega) only [qN.bind_ok, qN.bind_pan, qf, qF, zy, cond_true, cond_false, qq, qZ, zw, zu, zo, zQ, qs, zB, zc, ze, zl, z9, zn, zg, zR, zX, Int.toNat_natCast, if_true]
      by_cases h1 : x = 256
      · simp (disch := omega) only [qN.bind_ok, qN.bind_pan, qf, qF, zy, cond_true, cond_false, qq, qZ, zw, zu, zo, zQ, qs, zB, zc, ze, zl, z9, zn, zg, zR, zX, Int.toNat_natCast, if_pos, h1]
        exact rfl
      · simp (disch := omega) only [qN.bind_ok, qN.bind_pan, qf, qF, zy, cond_true, cond_false, qq, qZ, zw, zu, zo, zQ, qs, zB, zc, ze, zl, z9, zn, zg, zR, zX, Int.toNat_natCast, if_neg, h1, if_false]
        by_cases h2 : x < 256
        · simp (disch := omega) only [qN.bind_ok, qN.bind_pan, qf, qF, zy, cond_true, cond_false, qq, qZ, zw, zu, zo, zQ, qs, zB, zc, ze, zl, z9, zn, zg, zR, zX, Int.toNat_natCast, if_pos, h2, if_true]
          by_cases h3 : out.length < L
          · have h4 : room (out.length + ([(x : Int)] : List Int).length) 1 = true := zg (by simp; omega)
            simp (disch := omega) only [qN.bind_ok, qN.bind_pan, qf, qF, zy, cond_true, cond_false, qq, qZ, zw, zu, zo, zQ, qs, zB, zc, ze, zl, z9, zn, zg, zR, zX, Int.toNat_natCast, if_neg, if_pos, h4, h3, if_true]
            exact ih q _ hq (by simp; omega)
          · simp (disch := omega) only [qN.bind_ok, qN.bind_pan, qf, qF, zy, cond_true, cond_false, qq, qZ, zw, zu, zo, zQ, qs, zB, zc, ze, zl, z9, zn, zg, zR, zX, Int.toNat_natCast, if_pos, if_neg, h3, if_false]
            exact y8 (by decide) rfl
        · simp (disch := omega) only [qN.bind_ok, qN.bind_pan, qf, qF, zy, cond_true, cond_false, qq, qZ, zw, zu, zo, zQ, qs, zB, zc, ze, zl, z9, zn, zg, zR, zX, Int.toNat_natCast, if_neg, h2, if_false]
          have hm := Bi K t L dl x q out hdl hl hL hK (by omega) hq ho
          cases hs : vn t L dl x q out with
          | error e =>
            have he := XZ hs
            rw [hs] at hm
            unfold uI at hm
            dsimp only at hm
            rw [if_neg (by omega)] at hm
            obtain ⟨p', out', hm, hne⟩ := hm
            rw [hm]
            simp (disch := omega) only [qN.bind_ok, qN.bind_pan, qf, qF, zy, cond_true, cond_false, qq, qZ, zw, zu, zo, zQ, qs, zB, zc, ze, zl, z9, zn, zg, zR, zX, Int.toNat_natCast, if_neg]
            exact y8 he rfl
          | ok qo =>
            obtain ⟨q', out'⟩ := qo
            rw [hs] at hm
            unfold uI at hm
            dsimp only at hm
            rw [hm]
            simp (disch := omega) only [qN.bind_ok, qN.bind_pan, qf, qF, zy, cond_true, cond_false, qq, qZ, zw, zu, zo, zQ, qs, zB, zc, ze, zl, z9, zn, zg, zR, zX, Int.toNat_natCast, if_true]
            obtain ⟨_, h7, h8⟩ := ZM hs
            exact ih q' out' h7 h8
end Go.Pu

set_option maxRecDepth 100000
namespace Go.Pu
open Go Go.Sl Go.Mo
abbrev jK := qv
def jJ (t : jK) : Bool := if t.Dist_ = 0 then decide (t.Len_ = 0) else decide (1 ≤ t.Dist_ ∧ t.Dist_ ≤ 32768 ∧ 3 ≤ t.Len_ ∧ t.Len_ ≤ 258 ∧ t.Lit_ = 0)
theorem De (K : Nat) (t : jK) : vV.m K t = .ok (jJ t) := by
  unfold vV.m jJ
  rw [qZ]
  by_cases h : t.Dist_ = 0
  · rw [if_pos h, if_pos h, qF]; rfl
  · rw [if_neg h, if_neg h, qF]
    congr 1
    rw [Bool.eq_iff_iff]
    simp only [Bool.and_eq_true, decide_eq_true_eq, beq_iff_eq]
    omega
theorem D9 (K : Nat) (t : jK) : yJ.m K t = .ok (jJ t) := by
  unfold yJ.m jJ
  rw [qZ]
  by_cases h : t.Dist_ = 0
  · rw [if_pos h, if_pos h, qF]; rfl
  · rw [if_neg h, if_neg h, qF]
    congr 1
    rw [Bool.eq_iff_iff]
    simp only [Bool.and_eq_true, decide_eq_true_eq, beq_iff_eq]
    omega
def jO (n : Nat) : Nat := if n = 258 then 285 else (List.range 28).foldl (fun out k => if (lenOf (257 + k)).1 ≤ n then 257 + k else out) 257
def jY (n : Nat) : Nat := (List.range 30).foldl (fun out k => if (x7 k).1 ≤ n then k else out) 0
theorem Kw {f : Nat → Nat} {p : Nat → Prop} [DecidablePred p] (s0 d : Nat) : ∀ m, (∀ k, k < m → (p k ↔ k ≤ s0)) → (List.range m).foldl (fun out k => if p k then f k else out) d = if m = 0 then d else f (min s0 (m - 1))
  | 0, _ => rfl
  | m + 1, h => by
    rw [List.range_succ, List.foldl_append, Kw s0 d m (fun k hk => h k (by omega))]
    simp only [List.foldl_cons, List.foldl_nil]
    have := h m (by omega)
    rw [if_neg (by omega : ¬ m + 1 = 0)]
    by_cases hm : m ≤ s0
    · rw [if_pos (this.2 hm)]; congr 1; omega
    · rw [if_neg (fun hp => hm (this.1 hp))]
      by_cases h0 : m = 0
      · omega
      · rw [if_neg h0]; congr 1; omega
theorem VS (K : Nat) (n told : Nat) (hn : n < 1048576) (ht : told ≤ 2) : ∀ (j k top : Nat), top < j → k + top < 1048576 → k ≤ 20 → top * 2 ^ k ≤ n → n < (top + 1) * 2 ^ k → (k = 0 ∨ 2 ^ told ≤ top) →
    ∃ k' top', k' ≤ 20 ∧ top' * 2 ^ k' ≤ n ∧ n < (top' + 1) * 2 ^ k' ∧ (k' = 0 ∨ 2 ^ told ≤ top') ∧ top' < 2 ^ (told + 1) ∧
      xd.l1 K (n : Int) (told : Int) j (k : Int) (top : Int) = .ok (((k' * 2 ^ told + top' : Nat) : Int), (k' : Int), ((n - top' * 2 ^ k' : Nat) : Int)) := by
  intro j
  induction j with
  | zero => intro k top h; omega
  | succ j ih =>
    intro k top h1 h2 h20 h3 h4 h5
    have hpt : 2 ^ told ≤ 2 ^ 2 := Nat.pow_le_pow_right (by decide) ht
    have hpt1 : 1 ≤ 2 ^ told := Nat.one_le_two_pow
    have e2 : xl .i64 2 (told : Int) = ((2 ^ (told + 1) : Nat) : Int) := by
      have := vR (a := 2) (n := told) (by omega) (by omega)
      rw [show ((2 : Nat) : Int) = 2 from rfl] at this
      rw [this, Nat.pow_succ, Nat.mul_comm]
    rw [xd.l1, zX (by omega), qf, e2, qq]
    have hps : 2 ^ (told + 1) = 2 * 2 ^ told := by rw [Nat.pow_succ, Nat.mul_comm]
    by_cases hc : 2 ^ (told + 1) ≤ top
    · have hk20 : k < 20 := by
        refine Nat.lt_of_not_le fun hge => ?_
        have h6 : 2 ^ 20 ≤ 2 ^ k := Nat.pow_le_pow_right (by decide) hge
        have h7 : 1 * 2 ^ 20 ≤ top * 2 ^ k := Nat.mul_le_mul (by omega) h6
        omega
      have e3 : xF .i64 (top : Int) 1 = ((top / 2 : Nat) : Int) := by
        have := ja (k := .i64) (a := top) (n := 1) (by decide)
        rw [show ((1 : Nat) : Int) = 1 from rfl] at this
        rw [this]
      rw [if_pos (by omega), e3, qF, qF, show qi ((k : Int) + 1) = ((k + 1 : Nat) : Int) from by rw [qs (by omega) (by omega)]; rfl]
      refine ih (k + 1) (top / 2) (by omega) (by omega) (by omega) ?_ ?_ (by omega)
      · rw [Nat.pow_succ]
        have : top / 2 * (2 ^ k * 2) ≤ top * 2 ^ k := by rw [Nat.mul_comm (2 ^ k) 2, ← Nat.mul_assoc]; exact Nat.mul_le_mul_right _ (by omega)
        omega
      · rw [Nat.pow_succ]
        have : (top + 1) * 2 ^ k ≤ (top / 2 + 1) * (2 ^ k * 2) := by rw [Nat.mul_comm (2 ^ k) 2, ← Nat.mul_assoc]; exact Nat.mul_le_mul_right _ (by omega)
        omega
    · rw [if_neg (by omega)]
      refine ⟨k, top, h20, h3, h4, h5, by omega, ?_⟩
      unfold xd.j2
      have hk : k * 2 ^ told ≤ 20 * 4 := Nat.mul_le_mul h20 (by omega)
      rw [zX (by omega), qf, zX (by omega), qf, vR (by omega) (by omega), vR (by omega) (by omega), qs (by omega) (by omega), qs (x := (n : Int) - _) (by omega) (by omega), zc (by omega) (by omega)]
      congr 2
      congr 1
      omega
theorem XP (K : Nat) (n told : Nat) (hn : n < 1048576) (ht : told ≤ 2) (hK : n < K) : ∃ k top, k ≤ 20 ∧ top * 2 ^ k ≤ n ∧ n < (top + 1) * 2 ^ k ∧ (k = 0 ∨ 2 ^ told ≤ top) ∧ top < 2 ^ (told + 1) ∧
    xd.m K (n : Int) (told : Int) = .ok (((k * 2 ^ told + top : Nat) : Int), (k : Int), ((n - top * 2 ^ k : Nat) : Int)) := by
  unfold xd.m
  exact VS K n told hn ht K 0 n hK (by omega) (by omega) (by simp) (by simp) (.inl rfl)
theorem Y7 : ∀ k, k < 6 → ∀ top, top < 8 → (k = 0 ∨ 4 ≤ top) → lenOf (257 + (k * 4 + top)) = (3 + top * 2 ^ k, k) := by decide
theorem YT : ∀ k, k < 14 → ∀ top, top < 4 → (k = 0 ∨ 2 ≤ top) → x7 (k * 2 + top) = (1 + top * 2 ^ k, k) := by decide
theorem JM : ∀ j, j < 28 → ∀ i, i < j → (lenOf (257 + i)).1 < (lenOf (257 + j)).1 := by decide
theorem Jz : ∀ j, j < 30 → ∀ i, i < j → (x7 i).1 < (x7 j).1 := by decide
theorem BZ {n s : Nat} (hs : s < 28) (hn : n ≠ 258) (h1 : (lenOf (257 + s)).1 ≤ n) (h2 : s = 27 ∨ n < (lenOf (257 + (s + 1))).1) : jO n = 257 + s := by
  unfold jO
  rw [if_neg hn, Kw (f := fun k => 257 + k) (p := fun k => (lenOf (257 + k)).1 ≤ n) s 257 28 (fun k hk => ?_)]
  · simp only [if_neg (by decide : ¬ 28 = 0)]; omega
  · constructor
    · intro hle
      refine Nat.le_of_not_lt fun hlt => ?_
      rcases h2 with h2 | h2
      · omega
      · by_cases he : k = s + 1
        · subst he; omega
        · have := JM k hk (s + 1) (by omega); omega
    · intro hle
      by_cases he : k = s
      · subst he; exact h1
      · have := JM s hs k (by omega); omega
theorem BO {n s : Nat} (hs : s < 30) (h1 : (x7 s).1 ≤ n) (h2 : s = 29 ∨ n < (x7 (s + 1)).1) : jY n = s := by
  unfold jY
  rw [Kw (f := fun k => k) (p := fun k => (x7 k).1 ≤ n) s 0 30 (fun k hk => ?_)]
  · simp only [if_neg (by decide : ¬ 30 = 0)]; omega
  · constructor
    · intro hle
      refine Nat.le_of_not_lt fun hlt => ?_
      rcases h2 with h2 | h2
      · omega
      · by_cases he : k = s + 1
        · subst he; omega
        · have := Jz k hk (s + 1) (by omega); omega
    · intro hle
      by_cases he : k = s
      · subst he; exact h1
      · have := Jz s hs k (by omega); omega
structure Gk (n s e : Nat) : Prop where
  eq : jO n = s
  lo : 257 ≤ s
  hi : s ≤ 285
  sum : (lenOf s).1 + e = n
  bits : e < 2 ^ (lenOf s).2
  small : (lenOf s).2 ≤ 5
structure Gj (n s e : Nat) : Prop where
  eq : jY n = s
  hi : s ≤ 29
  sum : (x7 s).1 + e = n
  bits : e < 2 ^ (x7 s).2
  small : (x7 s).2 ≤ 13
theorem Q1 (K : Nat) (n : Nat) (h3 : 3 ≤ n) (h258 : n ≤ 258) (hK : 300 < K) : ∃ s e, Gk n s e ∧ yG.m K (n : Int) = .ok ((s : Int), ((lenOf s).2 : Int), (e : Int)) := by
  unfold yG.m
  rw [qZ]
  by_cases h : n = 258
  · subst h
    rw [if_pos (show ((258 : Nat) : Int) = 258 from rfl)]
    exact ⟨285, 0, ⟨rfl, by decide, by decide, by decide, by decide, by decide⟩, by rfl⟩
  · rw [if_neg (by omega), show qi ((n : Int) - 3) = ((n - 3 : Nat) : Int) from by rw [qs (by omega) (by omega)]; omega]
    obtain ⟨k, top, q1, q2, q3, q4, q5, q6⟩ := XP K (n - 3) 2 (by omega) (by omega) (by omega)
    rw [show ((2 : Nat) : Int) = 2 from rfl] at q6
    have hk : k < 6 := by
      refine Nat.lt_of_not_le fun hge => ?_
      have h6 : 2 ^ 6 ≤ 2 ^ k := Nat.pow_le_pow_right (by decide) hge
      have h7 : 4 * 2 ^ 6 ≤ top * 2 ^ k := Nat.mul_le_mul (by omega) h6
      omega
    have ht := Y7 k hk top (by omega) (by omega)
    have hlt28 : k * 4 + top < 28 := by
      refine Nat.lt_of_not_le fun hge => ?_
      omega
    have hnext : k * 4 + top = 27 ∨ n < (lenOf (257 + (k * 4 + top + 1))).1 := by
      by_cases h27 : k * 4 + top = 27
      · exact .inl h27
      · right
        by_cases h7 : top = 7
        · have := Y7 (k + 1) (by omega) 4 (by decide) (.inr (by decide))
          rw [show (k + 1) * 4 + 4 = k * 4 + top + 1 from by omega] at this
          rw [this, Nat.pow_succ]
          simp only
          subst h7; omega
        · have := Y7 k hk (top + 1) (by omega) (by omega)
          rw [show k * 4 + (top + 1) = k * 4 + top + 1 from by omega] at this
          rw [this]
          simp only
          omega
    refine ⟨257 + (k * 4 + top), n - 3 - top * 2 ^ k, ⟨BZ hlt28 h (by rw [ht]; simp only; omega) hnext, by omega, by omega, by rw [ht]; simp only; omega, ?_, by rw [ht]; simp only; omega⟩, ?_⟩
    · rw [ht]; simp only; rw [Nat.add_mul, Nat.one_mul] at q3; omega
    · rw [q6, qN.bind_ok]
      dsimp only
      rw [ht, qs (by omega) (by omega)]
      congr 2
      omega
theorem uZ (K : Nat) (n : Nat) (h1 : 1 ≤ n) (h2 : n ≤ 32768) (hK : 32768 < K) : ∃ s e, Gj n s e ∧ yv.m K (n : Int) = .ok ((s : Int), ((x7 s).2 : Int), (e : Int)) := by
  unfold yv.m
  rw [show qi ((n : Int) - 1) = ((n - 1 : Nat) : Int) from by rw [qs (by omega) (by omega)]; omega]
  obtain ⟨k, top, q1, q2, q3, q4, q5, q6⟩ := XP K (n - 1) 1 (by omega) (by omega) (by omega)
  rw [show ((1 : Nat) : Int) = 1 from rfl] at q6
  have hk : k < 14 := by
    refine Nat.lt_of_not_le fun hge => ?_
    have h6 : 2 ^ 14 ≤ 2 ^ k := Nat.pow_le_pow_right (by decide) hge
    have h7 : 2 * 2 ^ 14 ≤ top * 2 ^ k := Nat.mul_le_mul (by omega) h6
    omega
  have ht := YT k hk top (by omega) (by omega)
  have hnext : k * 2 + top = 29 ∨ n < (x7 (k * 2 + top + 1)).1 := by
    by_cases h27 : k * 2 + top = 29
    · exact .inl h27
    · right
      by_cases h7 : top = 3
      · have := YT (k + 1) (by omega) 2 (by decide) (.inr (by decide))
        rw [show (k + 1) * 2 + 2 = k * 2 + top + 1 from by omega] at this
        rw [this, Nat.pow_succ]
        simp only
        subst h7; omega
      · have := YT k hk (top + 1) (by omega) (by omega)
        rw [show k * 2 + (top + 1) = k * 2 + top + 1 from by omega] at this
        rw [this]
        simp only
        omega
  refine ⟨k * 2 + top, n - 1 - top * 2 ^ k, ⟨BO (by omega) (by rw [ht]; simp only; omega) hnext, by omega, by rw [ht]; simp only; omega, ?_, by rw [ht]; simp only; omega⟩, ?_⟩
  · rw [ht]; simp only; rw [Nat.add_mul, Nat.one_mul] at q3; omega
  · rw [q6, qN.bind_ok]
    dsimp only
    rw [ht]
theorem VL (K : Nat) (n : Nat) : ∀ (j k s out : Nat), s + j = 28 → j < k → zA.l1 K (n : Int) k (out : Int) ((257 + s : Nat) : Int) = .ok ((((List.range' s j).foldl (fun out k => if (lenOf (257 + k)).1 ≤ n then 257 + k else out) out : Nat)) : Int) := by
  intro j
  induction j with
  | zero =>
    intro k s out h1 h2
    obtain ⟨k, rfl⟩ : ∃ m, k = m + 1 := ⟨k - 1, by omega⟩
    rw [zA.l1, qq, if_neg (by omega)]
    rfl
  | succ j ih =>
    intro k s out h1 h2
    obtain ⟨k, rfl⟩ : ∃ m, k = m + 1 := ⟨k - 1, by omega⟩
    have hw : qi (((257 + s : Nat) : Int) + 1) = ((257 + (s + 1) : Nat) : Int) := by rw [qs (by omega) (by omega)]; omega
    rw [zA.l1, qq, if_pos (by omega), ZJ K s (by omega), qN.bind_ok]
    dsimp only
    rw [qq, hw, qF, qF, List.range'_succ, List.foldl_cons]
    by_cases hc : (lenOf (257 + s)).1 ≤ n
    · rw [if_pos (by omega), if_pos hc]; exact ih k (s + 1) (257 + s) (by omega) (by omega)
    · rw [if_neg (by omega), if_neg hc]; exact ih k (s + 1) out (by omega) (by omega)
theorem Dn (K : Nat) (n : Nat) (hK : 40 < K) : zA.m K (n : Int) = .ok ((jO n : Nat) : Int) := by
  unfold zA.m jO
  rw [qZ]
  by_cases h : n = 258
  · subst h; rw [if_pos (show ((258 : Nat) : Int) = 258 from rfl), if_pos rfl]; rfl
  · rw [if_neg (by omega), if_neg h]
    have := VL K n 28 K 0 257 rfl (by omega)
    rw [List.range_eq_range']
    exact this
theorem VH (K : Nat) (n : Nat) : ∀ (j k s out : Nat), s + j = 30 → j < k → zL.l1 K (n : Int) k (out : Int) (s : Int) = .ok ((((List.range' s j).foldl (fun out k => if (x7 k).1 ≤ n then k else out) out : Nat)) : Int) := by
  intro j
  induction j with
  | zero =>
    intro k s out h1 h2
    obtain ⟨k, rfl⟩ : ∃ m, k = m + 1 := ⟨k - 1, by omega⟩
    rw [zL.l1, qq, if_neg (by omega)]
    rfl
  | succ j ih =>
    intro k s out h1 h2
    obtain ⟨k, rfl⟩ : ∃ m, k = m + 1 := ⟨k - 1, by omega⟩
    have hw : qi ((s : Int) + 1) = ((s + 1 : Nat) : Int) := by rw [qs (by omega) (by omega)]; omega
    rw [zL.l1, qq, if_pos (by omega), Qy K s (by omega), qN.bind_ok]
    dsimp only
    rw [qq, hw, qF, qF, List.range'_succ, List.foldl_cons]
    by_cases hc : (x7 s).1 ≤ n
    · rw [if_pos (by omega), if_pos hc]; exact ih k (s + 1) s (by omega) (by omega)
    · rw [if_neg (by omega), if_neg hc]; exact ih k (s + 1) out (by omega) (by omega)
theorem Dl (K : Nat) (n : Nat) (hK : 40 < K) : zL.m K (n : Int) = .ok ((jY n : Nat) : Int) := by
  unfold zL.m jY
  have := VH K n 30 K 0 0 rfl (by omega)
  rw [List.range_eq_range']
  exact this
end Go.Pu

set_option maxRecDepth 100000
namespace Go.Pu
open Go Go.Sl Go.Mo
abbrev PK := qb
theorem yY {α : Type} [Inhabited α] (A : List α) (x : α) (B : List α) {i : Int} (h : i = (A.length : Int)) : rd (A ++ x :: B) i = x := by
  subst h; simp [rd, List.getD]
theorem u4 {α : Type} (A : List α) (x y : α) (B : List α) {i : Int} (h : i = (A.length : Int)) : (A ++ x :: B).set (Int.toNat i) y = A ++ y :: B := by
  subst h; simp
theorem y9 {α : Type} (A : List α) (x : α) (B : List α) {i : Int} (h : i = (A.length : Int)) : inb i (A ++ x :: B).length = true := by
  subst h; simp [inb]; omega
theorem jq (x : PK) : qb.mk x.often_ x.symbols_ = x := rfl
theorem Lv (K : Nat) : ∀ (k : Nat) (P Y1 X2 M X1 Y2 Q : List PK), Y1.length = X1.length → X2.length = Y2.length → X2.length < k → (P ++ Y1 ++ X2 ++ M ++ X1 ++ Y2 ++ Q).length < 1099511627776 →
    qI.l1 K (P.length : Int) ((P.length + (Y1.length + X2.length) + M.length : Nat) : Int) ((Y1.length + X2.length : Nat) : Int) k (P ++ Y1 ++ X2 ++ M ++ X1 ++ Y2 ++ Q) (Y1.length : Int) =
      .ok (P ++ Y1 ++ Y2 ++ M ++ X1 ++ X2 ++ Q) := by
  intro k
  induction k with
  | zero => intro P Y1 X2 M X1 Y2 Q _ _ h; omega
  | succ k ih =>
    intro P Y1 X2 M X1 Y2 Q h1 h2 h3 h4
    rw [qI.l1]
    cases X2 with
    | nil =>
      have : Y2 = [] := List.length_eq_zero_iff.1 h2.symm
      subst this
      rw [qq, if_neg (by simp)]
    | cons x X2 =>
      cases Y2 with
      | nil => simp at h2
      | cons y Y2 =>
        simp only [List.length_cons, List.length_append] at h2 h3 h4
        have e1 : P ++ Y1 ++ (x :: X2) ++ M ++ X1 ++ (y :: Y2) ++ Q = (P ++ Y1) ++ x :: (X2 ++ M ++ X1 ++ (y :: (Y2 ++ Q))) := by simp
        have e2 : P ++ Y1 ++ (x :: X2) ++ M ++ X1 ++ (y :: Y2) ++ Q = (P ++ Y1 ++ (x :: X2) ++ M ++ X1) ++ y :: (Y2 ++ Q) := by simp
        have ha : qi ((P.length : Int) + (Y1.length : Int)) = ((P ++ Y1).length : Int) := by rw [qs (by omega) (by omega), List.length_append]; omega
        have hb : qi (((P.length + (Y1.length + (x :: X2).length) + M.length : Nat) : Int) + (Y1.length : Int)) = ((P ++ Y1 ++ (x :: X2) ++ M ++ X1).length : Int) := by
          simp only [List.length_cons, List.length_append]; rw [qs (by omega) (by omega)]; omega
        rw [qq, if_pos (by simp only [List.length_cons]; omega), ha, hb]
        rw [show inb ((P ++ Y1 ++ (x :: X2) ++ M ++ X1).length : Int) (P ++ Y1 ++ (x :: X2) ++ M ++ X1 ++ (y :: Y2) ++ Q).length = true from by rw [e2]; exact y9 _ _ _ rfl, qf]
        rw [show inb ((P ++ Y1).length : Int) (P ++ Y1 ++ (x :: X2) ++ M ++ X1 ++ (y :: Y2) ++ Q).length = true from by rw [e1]; exact y9 _ _ _ rfl, qf]
        rw [show rd (P ++ Y1 ++ (x :: X2) ++ M ++ X1 ++ (y :: Y2) ++ Q) ((P ++ Y1 ++ (x :: X2) ++ M ++ X1).length : Int) = y from by rw [e2]; exact yY _ _ _ rfl]
        rw [show rd (P ++ Y1 ++ (x :: X2) ++ M ++ X1 ++ (y :: Y2) ++ Q) ((P ++ Y1).length : Int) = x from by rw [e1]; exact yY _ _ _ rfl]
        rw [jq, jq, qF, e1, u4 _ _ _ _ rfl]
        have e3 : (P ++ Y1) ++ y :: (X2 ++ M ++ X1 ++ (y :: (Y2 ++ Q))) = (P ++ Y1 ++ (y :: X2) ++ M ++ X1) ++ y :: (Y2 ++ Q) := by simp
        have e4 : ((P ++ Y1 ++ (x :: X2) ++ M ++ X1).length : Int) = ((P ++ Y1 ++ (y :: X2) ++ M ++ X1).length : Int) := by simp
        rw [e3, e4, y9 _ _ _ rfl, qf, u4 _ _ _ _ rfl, qF, qF]
        have hw : qi ((Y1.length : Int) + 1) = ((Y1 ++ [y]).length : Int) := by rw [qs (by omega) (by omega), List.length_append]; rfl
        rw [hw]
        have := ih P (Y1 ++ [y]) X2 M (X1 ++ [x]) Y2 Q (by simp [h1]) (by omega) (by omega) (by simp only [List.length_append, List.length_cons, List.length_nil]; omega)
        simp only [List.length_append, List.length_cons, List.length_nil, List.append_assoc, List.cons_append, List.nil_append, Nat.zero_add] at this ⊢
        rw [show Y1.length + (X2.length + 1) = Y1.length + (1 + X2.length) from by omega]
        simp only [← Nat.add_assoc] at this ⊢
        exact this
theorem Bw (K : Nat) (P X M Y Q : List PK) (h : X.length = Y.length) (hK : X.length < K) (hl : (P ++ X ++ M ++ Y ++ Q).length < 1099511627776) {a b n : Int} (ha : a = (P.length : Int)) (hb : b = ((P.length + X.length + M.length : Nat) : Int)) (hn : n = (X.length : Int)) :
    qI.m K (P ++ X ++ M ++ Y ++ Q) a b n = .ok (P ++ Y ++ M ++ X ++ Q) := by
  subst ha; subst hb; subst hn
  have := Lv K K P [] X M [] Y Q rfl h hK (by simpa using hl)
  simpa [qI.m] using this
theorem GY (K : Nat) (hKl : 0 < K) : ∀ (k : Nat) (P X Y Q : List PK), 0 < X.length → 0 < Y.length → X.length + Y.length < k → (P ++ X ++ Y ++ Q).length < 1099511627776 → (P ++ X ++ Y ++ Q).length < K →
    qw.l1 K ((P.length + X.length : Nat) : Int) k (P ++ X ++ Y ++ Q) (X.length : Int) (Y.length : Int) = .ok (P ++ Y ++ X ++ Q) := by
  intro k
  induction k with
  | zero => intro P X Y Q _ _ h; omega
  | succ k ih =>
    intro P X Y Q hx hy h3 h4 h5
    simp only [List.length_append] at h4 h5
    rw [qw.l1, zw]
    by_cases he : (X.length : Int) = (Y.length : Int)
    · rw [if_pos he]
      unfold qw.j2
      have := Bw K P X [] Y Q (by omega) (by omega) (by simp only [List.length_append, List.length_nil]; omega) (a := qi (((P.length + X.length : Nat) : Int) - (X.length : Int))) (b := ((P.length + X.length : Nat) : Int)) (n := (X.length : Int))
        (by rw [qs (by omega) (by omega)]; omega) (by simp) rfl
      simp only [List.append_nil] at this
      rw [this]; rfl
    · rw [if_neg he, qq]
      by_cases hg : (X.length : Int) > (Y.length : Int)
      · rw [if_pos hg]
        obtain ⟨X1, X2, rfl, hX1⟩ : ∃ X1 X2, X = X1 ++ X2 ∧ X1.length = Y.length := ⟨X.take Y.length, X.drop Y.length, by simp, by rw [List.length_take]; omega⟩
        simp only [List.length_append] at h3 h4 h5 hx hg he
        have := Bw K P X1 X2 Y Q (by omega) (by omega) (by simp only [List.length_append]; omega) (a := qi (((P.length + (X1 ++ X2).length : Nat) : Int) - ((X1 ++ X2).length : Int))) (b := ((P.length + (X1 ++ X2).length : Nat) : Int)) (n := (Y.length : Int))
          (by simp only [List.length_append]; rw [qs (by omega) (by omega)]; omega) (by simp only [List.length_append]; omega) (by omega)
        rw [show P ++ (X1 ++ X2) ++ Y ++ Q = P ++ X1 ++ X2 ++ Y ++ Q from by simp, this, qN.bind_ok, qF]
        have hw : qi (((X1 ++ X2).length : Int) - (Y.length : Int)) = (X2.length : Int) := by simp only [List.length_append]; rw [qs (by omega) (by omega)]; omega
        rw [hw]
        have := ih (P ++ Y) X2 X1 Q (by omega) (by omega) (by omega) (by simp only [List.length_append]; omega) (by simp only [List.length_append]; omega)
        rw [hX1] at this
        rw [show ((P.length + (X1 ++ X2).length : Nat) : Int) = (((P ++ Y).length + X2.length : Nat) : Int) from by simp only [List.length_append]; omega, this]
        simp
      · rw [if_neg hg]
        obtain ⟨Y1, Y2, rfl, hY2⟩ : ∃ Y1 Y2, Y = Y1 ++ Y2 ∧ Y2.length = X.length := ⟨Y.take (Y.length - X.length), Y.drop (Y.length - X.length), by simp, by rw [List.length_drop]; omega⟩
        simp only [List.length_append] at h3 h4 h5 hy hg he
        have := Bw K P X Y1 Y2 Q (by omega) (by omega) (by simp only [List.length_append]; omega) (a := qi (((P.length + X.length : Nat) : Int) - (X.length : Int))) (b := qi (qi (((P.length + X.length : Nat) : Int) + ((Y1 ++ Y2).length : Int)) - (X.length : Int))) (n := (X.length : Int))
          (by rw [qs (by omega) (by omega)]; omega) (by simp only [List.length_append]; rw [qs (x := ((P.length + X.length : Nat) : Int) + _) (by omega) (by omega), qs (by omega) (by omega)]; omega) rfl
        rw [show P ++ X ++ (Y1 ++ Y2) ++ Q = P ++ X ++ Y1 ++ Y2 ++ Q from by simp, this, qN.bind_ok, qF]
        have hw : qi (((Y1 ++ Y2).length : Int) - (X.length : Int)) = (Y1.length : Int) := by simp only [List.length_append]; rw [qs (by omega) (by omega)]; omega
        rw [hw]
        have := ih P Y2 Y1 (X ++ Q) (by omega) (by omega) (by omega) (by simp only [List.length_append]; omega) (by simp only [List.length_append]; omega)
        rw [hY2] at this
        rw [show P ++ Y2 ++ Y1 ++ X ++ Q = P ++ Y2 ++ Y1 ++ (X ++ Q) from by simp, this]
        simp
theorem Ga (K : Nat) (P X Y Q : List PK) (hx : 0 < X.length) (hy : 0 < Y.length) (h4 : (P ++ X ++ Y ++ Q).length < 1099511627776) (h5 : (P ++ X ++ Y ++ Q).length < K) {a m b : Int} (ha : a = (P.length : Int)) (hm : m = ((P.length + X.length : Nat) : Int))
    (hb : b = ((P.length + X.length + Y.length : Nat) : Int)) : qw.m K (P ++ X ++ Y ++ Q) a m b = .ok (P ++ Y ++ X ++ Q) := by
  subst ha; subst hm; subst hb
  unfold qw.m
  have h4' := h4; have h5' := h5
  simp only [List.length_append] at h4' h5'
  rw [qF, qF, show qi (((P.length + X.length : Nat) : Int) - (P.length : Int)) = (X.length : Int) from by rw [qs (by omega) (by omega)]; omega,
    show qi (((P.length + X.length + Y.length : Nat) : Int) - ((P.length + X.length : Nat) : Int)) = (Y.length : Int) from by rw [qs (by omega) (by omega)]; omega]
  exact GY K (by omega) K P X Y Q hx hy (by omega) h4 h5
def jD (l : List PK) : Prop := l.Pairwise fun x y => x.often_ ≤ y.often_
def SS (l l' : List PK) : Prop := jD l' ∧ l'.Perm l ∧ ∀ k : Int, l'.filter (fun x => x.often_ == k) = l.filter (fun x => x.often_ == k)
theorem jD.append {A B : List PK} (ha : jD A) (hb : jD B) (h : ∀ x ∈ A, ∀ y ∈ B, x.often_ ≤ y.often_) : jD (A ++ B) := List.pairwise_append.2 ⟨ha, hb, h⟩
theorem jD.left {A B : List PK} (h : jD (A ++ B)) : jD A := (List.pairwise_append.1 h).1
theorem jD.right {A B : List PK} (h : jD (A ++ B)) : jD B := (List.pairwise_append.1 h).2.1
theorem jD.cross {A B : List PK} (h : jD (A ++ B)) : ∀ x ∈ A, ∀ y ∈ B, x.often_ ≤ y.often_ := (List.pairwise_append.1 h).2.2
theorem SS.refl {l : List PK} (h : jD l) : SS l l := ⟨h, List.Perm.refl _, fun _ => rfl⟩
theorem Qm {X Y : List PK} (h : ∀ x ∈ X, ∀ y ∈ Y, y.often_ < x.often_) (k : Int) : (X ++ Y).filter (fun x => x.often_ == k) = (Y ++ X).filter (fun x => x.often_ == k) := by
  simp only [List.filter_append]
  by_cases hx : X.filter (fun x => x.often_ == k) = []
  · rw [hx]; simp
  · have : Y.filter (fun x => x.often_ == k) = [] := by
      obtain ⟨x, hx⟩ := List.exists_mem_of_ne_nil _ hx
      rw [List.mem_filter] at hx
      rw [List.filter_eq_nil_iff]
      intro y hy
      have := h x hx.1 y hy
      have h2 : x.often_ = k := by simpa using hx.2
      simp only [beq_iff_eq]; omega
    rw [this]; simp
end Go.Pu

set_option maxRecDepth 100000
namespace Go.Pu
open Go Go.Sl Go.Mo
theorem uN {α : Type} (A : List α) : A = [] ∨ ∃ A' z, A = A' ++ [z] := by
  rcases List.eq_nil_or_concat A with h | ⟨A', z, h⟩
  · exact .inl h
  · exact .inr ⟨A', z, by rw [h]; simp⟩
def Km (x y : Int) : Int := if x < y then -1 else if x > y then 1 else 0
theorem Vn (K : Nat) (x y : Int) : yF.m K x y = .ok (Km x y) := by
  unfold yF.m y6.m Km
  have h : ∀ z : Int, (z != z) = false := fun z => by simp
  simp only [h, qF, qN.bind_ok, cond_false, qq]
  split <;> (try rfl)
  split <;> rfl
theorem BI (K : Nat) (x y : PK) : xN.m K x y = .ok (Km x.often_ y.often_) := by
  unfold xN.m; rw [Vn]; rfl
theorem Q9 (x y : Int) : decide (Km x y < (0 : Int)) = decide (x < y) := by
  unfold Km
  by_cases h : x < y
  · rw [if_pos h]; simp [h]
  · rw [if_neg h]; split <;> simp [h]
theorem jD.last {A : List PK} {x : PK} (h : jD A) (hx : ∀ y, A.getLast? = some y → y.often_ ≤ x.often_) : ∀ y ∈ A, y.often_ ≤ x.often_ := by
  intro y hy
  rcases uN A with rfl | ⟨A', z, rfl⟩
  · cases hy
  · have hz := hx z (by simp)
    rcases List.mem_append.1 hy with h1 | h1
    · have := h.cross y h1 z (by simp); omega
    · simp at h1; subst h1; exact hz
theorem SS.ins {A1 A2 : List PK} {x : PK} (h : jD (A1 ++ A2)) (h1 : ∀ y ∈ A1, y.often_ ≤ x.often_) (h2 : ∀ y ∈ A2, x.often_ < y.often_) : SS (A1 ++ A2 ++ [x]) (A1 ++ x :: A2) := by
  refine ⟨?_, ?_, fun k => ?_⟩
  · refine jD.append h.left ?_ ?_
    · exact List.pairwise_cons.2 ⟨fun y hy => by have := h2 y hy; omega, h.right⟩
    · intro a ha y hy
      rcases List.mem_cons.1 hy with rfl | hy
      · exact h1 a ha
      · exact h.cross a ha y hy
  · rw [List.append_assoc]
    exact List.Perm.append_left _ (List.perm_append_comm (l₁ := [x]) (l₂ := A2))
  · have := Qm (X := A2) (Y := [x]) (fun a ha y hy => by simp at hy; subst hy; exact h2 a ha) k
    rw [List.append_assoc, List.filter_append, List.filter_append (l₁ := A1), this]
    rfl
theorem BU (K : Nat) (g : List PK → Int → qN (List PK)) (i : Nat) (P Q : List PK) (x : PK) (hi : i < 1099511627776) : ∀ (k : Nat) (A B : List PK), A.length < k → (P ++ A ++ x :: (B ++ Q)).length < 1099511627776 →
    ∃ A1 A2, A = A1 ++ A2 ∧ (∀ y ∈ A2, x.often_ < y.often_) ∧ (∀ y, A1.getLast? = some y → y.often_ ≤ x.often_) ∧
      qd.l2 K g (P.length : Int) (i : Int) k (P ++ A ++ x :: (B ++ Q)) ((P.length + A.length : Nat) : Int) = g (P ++ A1 ++ x :: (A2 ++ B ++ Q)) ((i + 1 : Nat) : Int) := by
  intro k
  induction k with
  | zero => intro A B h; omega
  | succ k ih =>
    intro A B h hl
    have hl' := hl
    simp only [List.length_append, List.length_cons] at hl'
    rcases uN A with rfl | ⟨A', y, rfl⟩
    · refine ⟨[], [], rfl, (fun y hy => by cases hy), (fun y hy => by cases hy), ?_⟩
      rw [qd.l2, qq, if_neg (by simp)]
      unfold qd.j3
      rw [cond_false, qF, show qi ((i : Int) + 1) = ((i + 1 : Nat) : Int) from by rw [qs (by omega) (by omega)]; rfl]
      simp
    · simp only [List.length_append, List.length_cons, List.length_nil] at h hl' ⊢
      have ej : (((P.length + (A'.length + (0 + 1)) : Nat)) : Int) = ((P ++ (A' ++ [y])).length : Int) := by simp
      have ej1 : qi (((P.length + (A'.length + (0 + 1)) : Nat) : Int) - 1) = ((P ++ A').length : Int) := by rw [qs (by omega) (by omega)]; simp only [List.length_append]; omega
      have d1 : P ++ (A' ++ [y]) ++ x :: (B ++ Q) = (P ++ A') ++ y :: (x :: (B ++ Q)) := by simp
      have r1 : rd (P ++ (A' ++ [y]) ++ x :: (B ++ Q)) (((P.length + (A'.length + (0 + 1)) : Nat)) : Int) = x := yY _ _ _ ej
      have r2 : rd (P ++ (A' ++ [y]) ++ x :: (B ++ Q)) ((P ++ A').length : Int) = y := by rw [d1]; exact yY _ _ _ rfl
      have b1 : inb (((P.length + (A'.length + (0 + 1)) : Nat)) : Int) (P ++ (A' ++ [y]) ++ x :: (B ++ Q)).length = true := y9 _ _ _ ej
      have b2 : inb ((P ++ A').length : Int) (P ++ (A' ++ [y]) ++ x :: (B ++ Q)).length = true := by rw [d1]; exact y9 _ _ _ rfl
      rw [qd.l2, qq, if_pos (by omega), b1, qf, ej1, b2, qf, r1, r2, jq, jq, BI, qN.bind_ok, Q9]
      unfold qd.j3
      rw [qq]
      by_cases hxy : x.often_ < y.often_
      · rw [if_pos hxy, ej1, b2, qf, b1, qf, r1, r2, jq, jq, qF]
        have s1 : (P ++ (A' ++ [y]) ++ x :: (B ++ Q)).set (Int.toNat (((P.length + (A'.length + (0 + 1)) : Nat)) : Int)) y = (P ++ A') ++ y :: (y :: (B ++ Q)) := by rw [u4 _ _ _ _ ej]; simp
        rw [s1, y9 _ _ _ rfl, qf, u4 _ _ _ _ rfl, qF, qF]
        obtain ⟨A1, A2, h1, h2, h3, h4⟩ := ih A' (y :: B) (by omega) (by simp only [List.length_append, List.length_cons]; omega)
        refine ⟨A1, A2 ++ [y], by rw [h1]; simp, fun z hz => ?_, h3, ?_⟩
        · rcases List.mem_append.1 hz with hz | hz
          · exact h2 z hz
          · simp at hz; subst hz; exact hxy
        · have : ((P ++ A').length : Int) = ((P.length + A'.length : Nat) : Int) := by simp
          rw [this]
          refine h4.trans ?_
          simp
      · refine ⟨A' ++ [y], [], by simp, fun z hz => (by cases hz), fun z hz => ?_, ?_⟩
        · simp at hz; subst hz; omega
        · rw [if_neg hxy, qF, show qi ((i : Int) + 1) = ((i + 1 : Nat) : Int) from by rw [qs (by omega) (by omega)]; rfl]
          simp
theorem SS.snoc {S0 S S' : List PK} {x : PK} (h : SS S0 S) (h' : SS (S ++ [x]) S') : SS (S0 ++ [x]) S' :=
  ⟨h'.1, h'.2.1.trans (h.2.1.append_right _), fun k => by rw [h'.2.2 k, List.filter_append, h.2.2 k, ← List.filter_append]⟩
theorem Ua (K : Nat) (P Q : List PK) (hK : (1099511627776 : Nat) > K) : ∀ (T S0 S : List PK) (k : Nat), SS S0 S → 0 < S.length → T.length < k → (P ++ S ++ T ++ Q).length < K →
    ∃ S', SS (S0 ++ T) S' ∧ qd.l1 K (P.length : Int) ((P.length + S.length + T.length : Nat) : Int) k (P ++ S ++ T ++ Q) ((P.length + S.length : Nat) : Int) = .ok (P ++ S' ++ Q)
  | [], S0, S, k, hs, h0, hk, hl => by
    obtain ⟨k, rfl⟩ : ∃ m, k = m + 1 := ⟨k - 1, by simp at hk; omega⟩
    refine ⟨S, by simpa using hs, ?_⟩
    rw [qd.l1, qq, if_neg (by simp)]
    simp
  | x :: T, S0, S, k, hs, h0, hk, hl => by
    obtain ⟨k, rfl⟩ : ∃ m, k = m + 1 := ⟨k - 1, by simp at hk; omega⟩
    simp only [List.length_cons, List.length_append] at hk hl
    rw [qd.l1, qq, if_pos (by simp only [List.length_cons]; omega)]
    obtain ⟨A1, A2, h1, h2, h3, h4⟩ := BU K (qd.l1 K (P.length : Int) ((P.length + S.length + (x :: T).length : Nat) : Int) k) (P.length + S.length) P (T ++ Q) x (by omega) K S []
      (by omega) (by simp only [List.length_append, List.length_cons, List.length_nil]; omega)
    simp only [List.nil_append, List.append_nil] at h4
    rw [show P ++ S ++ x :: T ++ Q = P ++ S ++ x :: (T ++ Q) from by simp, h4]
    subst h1
    have hss := SS.ins hs.1 (hs.1.left.last h3) h2
    simp only [List.length_append] at hl
    obtain ⟨S', g1, g2⟩ := Ua K P Q hK T (S0 ++ [x]) (A1 ++ x :: A2) k (hs.snoc hss) (by simp only [List.length_append, List.length_cons]; omega) (by omega) (by simp only [List.length_append, List.length_cons]; omega)
    refine ⟨S', by simpa using g1, ?_⟩
    rw [← g2]
    simp only [List.length_append, List.length_cons, List.append_assoc, List.cons_append]
    congr 2 <;> (simp only [Nat.add_assoc]; congr 1 <;> omega)
theorem Yv (K : Nat) (P S Q : List PK) (hK : (1099511627776 : Nat) > K) (hl : (P ++ S ++ Q).length + 1 < K) {a b : Int} (ha : a = (P.length : Int)) (hb : b = ((P.length + S.length : Nat) : Int)) :
    ∃ S', SS S S' ∧ qd.m K (P ++ S ++ Q) a b = .ok (P ++ S' ++ Q) := by
  subst ha; subst hb
  unfold qd.m
  have hl' := hl
  simp only [List.length_append] at hl'
  rw [qF, show qi ((P.length : Int) + 1) = ((P.length + 1 : Nat) : Int) from by rw [qs (by omega) (by omega)]; rfl]
  cases S with
  | nil =>
    refine ⟨[], ⟨List.Pairwise.nil, List.Perm.refl _, fun _ => rfl⟩, ?_⟩
    obtain ⟨k, rfl⟩ : ∃ m, K = m + 1 := ⟨K - 1, by omega⟩
    rw [qd.l1, qq, if_neg (by simp only [List.length_nil]; omega)]
  | cons x S =>
    simp only [List.length_cons] at hl'
    obtain ⟨S', h1, h2⟩ := Ua K P Q hK S [x] [x] K (SS.refl (List.pairwise_singleton _ _)) (by simp) (by omega) (by simp only [List.length_append, List.length_cons, List.length_nil]; omega)
    refine ⟨S', by simpa using h1, ?_⟩
    rw [← h2]
    simp only [List.length_cons, List.length_nil, List.append_assoc, List.cons_append, List.nil_append]
    congr 2
    omega
end Go.Pu

set_option maxRecDepth 100000
namespace Go.Pu
open Go Go.Sl Go.Mo
theorem V7 {i j : Nat} (h : i + j < 1099511627776) : wr .i64 (xF .u64 (wr .u64 (qi ((i : Int) + (j : Int)))) 1) = (((i + j) / 2 : Nat) : Int) := by
  rw [show qi ((i : Int) + (j : Int)) = ((i + j : Nat) : Int) from by rw [qs (by omega) (by omega)]; rfl, ze (by omega) (by omega)]
  have := ja (k := .u64) (a := i + j) (n := 1) (by decide)
  rw [show ((1 : Nat) : Int) = 1 from rfl] at this
  rw [this, zl (by omega) (by omega)]
theorem ZI {α : Type} [Inhabited α] (X Y : List α) (t : Nat) : rd (X ++ Y) ((X.length + t : Nat) : Int) = rd Y (t : Int) := by
  simp only [rd, Int.toNat_natCast, List.getD]
  rw [List.getElem?_append_right (by omega), Nat.add_sub_cancel_left]
theorem jC {α : Type} [Inhabited α] (X Y : List α) {t : Nat} (h : t < X.length) : rd (X ++ Y) (t : Int) = rd X (t : Int) := by
  simp only [rd, Int.toNat_natCast, List.getD]
  rw [List.getElem?_append_left h]
theorem jR {α : Type} [Inhabited α] {X : List α} {x : α} (h : x ∈ X) : ∃ i, i < X.length ∧ x = rd X (i : Int) := by
  obtain ⟨i, hi, rfl⟩ := List.getElem_of_mem h
  exact ⟨i, hi, by simp [rd, List.getD, hi]⟩
theorem Jh {α : Type} [Inhabited α] {X : List α} {n t : Nat} (h : t < n) : rd (X.take n) (t : Int) = rd X (t : Int) := by
  simp only [rd, Int.toNat_natCast, List.getD, List.getElem?_take, if_pos h]
theorem Jg {α : Type} [Inhabited α] {X : List α} {n t : Nat} : rd (X.drop n) (t : Int) = rd X ((n + t : Nat) : Int) := by
  simp only [rd, Int.toNat_natCast, List.getD, List.getElem?_drop]
theorem jD.rd {X : List PK} (h : jD X) {i j : Nat} (hij : i ≤ j) (hj : j < X.length) : (Sl.rd X (i : Int)).often_ ≤ (Sl.rd X (j : Int)).often_ := by
  by_cases he : i = j
  · subst he; exact Int.le_refl _
  · have := List.pairwise_iff_getElem.1 h i j (by omega) hj (by omega)
    have h1 : i < X.length := by omega
    simp only [Sl.rd, Int.toNat_natCast, List.getD, List.getElem?_eq_getElem h1, List.getElem?_eq_getElem hj]
    exact this
theorem Yg {i n : Nat} (h : i < n) : inb (i : Int) n = true := by simp only [inb, decide_eq_true_eq]; omega
theorem DS (K : Nat) (rc : List PK → Int → Int → Int → qN (List PK)) (P B Q : List PK) (x : PK) (hB : jD B) (hl : (P ++ [x] ++ B ++ Q).length < 549755813888) : ∀ (k i j : Nat), i ≤ j → j ≤ B.length → j - i < k →
    (∀ t, t < i → (rd B (t : Int)).often_ < x.often_) → (∀ t, j ≤ t → t < B.length → x.often_ ≤ (rd B (t : Int)).often_) →
    ∃ q, q ≤ B.length ∧ (∀ t, t < q → (rd B (t : Int)).often_ < x.often_) ∧ (∀ t, q ≤ t → t < B.length → x.often_ ≤ (rd B (t : Int)).often_) ∧
      qa.l1 K rc (P ++ [x] ++ B ++ Q) (P.length : Int) k ((P.length + 1 + i : Nat) : Int) ((P.length + 1 + j : Nat) : Int) =
        qa.j2 K rc (P ++ [x] ++ B ++ Q) (P.length : Int) ((P.length + 1 + q : Nat) : Int) := by
  intro k
  induction k with
  | zero => intro i j h1 h2 h3; omega
  | succ k ih =>
    intro i j h1 h2 h3 hlo hhi
    have hl' := hl
    simp only [List.length_append, List.length_cons, List.length_nil] at hl'
    rw [qa.l1, qq]
    by_cases hij : i < j
    · rw [if_pos (by omega), V7 (by omega), qF]
      obtain ⟨h, hh⟩ : ∃ h, (P.length + 1 + i + (P.length + 1 + j)) / 2 = P.length + 1 + h := ⟨(P.length + 1 + i + (P.length + 1 + j)) / 2 - (P.length + 1), by omega⟩
      have hi1 : i ≤ h := by omega
      have hi2 : h < j := by omega
      have r1 : rd (P ++ [x] ++ B ++ Q) ((P.length + 1 + h : Nat) : Int) = rd B (h : Int) := by
        have := ZI (P ++ [x]) (B ++ Q) h
        rw [jC B Q (by omega)] at this
        simpa using this
      have r2 : rd (P ++ [x] ++ B ++ Q) (P.length : Int) = x := by
        rw [show P ++ [x] ++ B ++ Q = P ++ x :: (B ++ Q) from by simp]; exact yY _ _ _ rfl
      rw [hh, Yg (by simp only [List.length_append, List.length_cons, List.length_nil]; omega), qf, Yg (by simp only [List.length_append, List.length_cons, List.length_nil]; omega), qf, r1, r2, jq, jq, BI, qN.bind_ok, Q9, qq]
      by_cases hc : (rd B (h : Int)).often_ < x.often_
      · rw [if_pos hc, qF, show qi (((P.length + 1 + h : Nat) : Int) + 1) = ((P.length + 1 + (h + 1) : Nat) : Int) from by rw [qs (by omega) (by omega)]; omega]
        exact ih (h + 1) j (by omega) h2 (by omega) (fun t ht => by have := hB.rd (i := t) (j := h) (by omega) (by omega); omega) hhi
      · rw [if_neg hc]
        exact ih i h hi1 (by omega) (by omega) hlo (fun t ht htl => by have := hB.rd (i := h) (j := t) ht htl; omega)
    · rw [if_neg (by omega)]
      have : i = j := by omega
      subst this
      exact ⟨i, h2, hlo, hhi, rfl⟩
theorem DJ (K : Nat) (rc : List PK → Int → Int → Int → qN (List PK)) (x : PK) : ∀ (D P Q : List PK) (k : Nat), D.length < k → (P ++ x :: (D ++ Q)).length < 549755813888 → ∀ i : Int, i = ((P.length + 1 + D.length : Nat) : Int) →
    qa.l3 K rc i k (P ++ x :: (D ++ Q)) (P.length : Int) = .ok (P ++ D ++ x :: Q)
  | [], P, Q, k, hk, hl, i, hi => by
    obtain ⟨k, rfl⟩ : ∃ m, k = m + 1 := ⟨k - 1, by simp at hk; omega⟩
    simp only [List.length_append, List.length_cons, List.length_nil] at hl hi
    subst hi
    rw [qa.l3, qq, if_neg (by rw [qs (by omega) (by omega)]; omega)]
    simp
  | y :: D, P, Q, k, hk, hl, i, hi => by
    obtain ⟨k, rfl⟩ : ∃ m, k = m + 1 := ⟨k - 1, by simp at hk; omega⟩
    simp only [List.length_append, List.length_cons] at hl hi hk
    have ih := DJ K rc x D (P ++ [y]) Q k (by omega) (by simp only [List.length_append, List.length_cons, List.length_nil]; omega) i (by rw [hi]; simp only [List.length_append, List.length_cons, List.length_nil]; omega)
    subst hi
    have e1 : qi ((P.length : Int) + 1) = ((P ++ [x]).length : Int) := by rw [qs (by omega) (by omega)]; simp
    have d1 : P ++ x :: (y :: D ++ Q) = (P ++ [x]) ++ y :: (D ++ Q) := by simp
    have r1 : rd (P ++ x :: (y :: D ++ Q)) ((P ++ [x]).length : Int) = y := by rw [d1]; exact yY _ _ _ rfl
    have r2 : rd (P ++ x :: (y :: D ++ Q)) (P.length : Int) = x := yY _ _ _ rfl
    have b1 : inb ((P ++ [x]).length : Int) (P ++ x :: (y :: D ++ Q)).length = true := by rw [d1]; exact y9 _ _ _ rfl
    rw [qa.l3, qq, if_pos (by rw [qs (by omega) (by omega)]; omega), e1, b1, qf, y9 _ _ _ rfl, qf, r1, r2, jq, jq, u4 _ _ _ _ rfl, qF]
    have d2 : P ++ y :: (y :: D ++ Q) = (P ++ [y]) ++ y :: (D ++ Q) := by simp
    have e2 : ((P ++ [x]).length : Int) = ((P ++ [y]).length : Int) := by simp
    rw [d2, e2, y9 _ _ _ rfl, qf, u4 _ _ _ _ rfl, qF, qF, ih]
    simp
theorem DR (K : Nat) (rc : List PK → Int → Int → Int → qN (List PK)) (P A Q : List PK) (x : PK) (hA : jD A) (hl : (P ++ A ++ x :: Q).length < 549755813888) : ∀ (k i j : Nat), i ≤ j → j ≤ A.length → j - i < k →
    (∀ t, t < i → (rd A (t : Int)).often_ ≤ x.often_) → (∀ t, j ≤ t → t < A.length → x.often_ < (rd A (t : Int)).often_) →
    ∃ q, q ≤ A.length ∧ (∀ t, t < q → (rd A (t : Int)).often_ ≤ x.often_) ∧ (∀ t, q ≤ t → t < A.length → x.often_ < (rd A (t : Int)).often_) ∧
      qa.l5 K rc (P ++ A ++ x :: Q) ((P.length + A.length : Nat) : Int) k ((P.length + i : Nat) : Int) ((P.length + j : Nat) : Int) =
        qa.j6 K rc (P ++ A ++ x :: Q) ((P.length + A.length : Nat) : Int) ((P.length + q : Nat) : Int) := by
  intro k
  induction k with
  | zero => intro i j h1 h2 h3; omega
  | succ k ih =>
    intro i j h1 h2 h3 hlo hhi
    have hl' := hl
    simp only [List.length_append, List.length_cons] at hl'
    rw [qa.l5, qq]
    by_cases hij : i < j
    · rw [if_pos (by omega), V7 (by omega), qF]
      obtain ⟨h, hh⟩ : ∃ h, (P.length + i + (P.length + j)) / 2 = P.length + h := ⟨(P.length + i + (P.length + j)) / 2 - P.length, by omega⟩
      have hi1 : i ≤ h := by omega
      have hi2 : h < j := by omega
      have r1 : rd (P ++ A ++ x :: Q) ((P.length + h : Nat) : Int) = rd A (h : Int) := by
        have := ZI P (A ++ x :: Q) h
        rw [jC A (x :: Q) (by omega)] at this
        simpa using this
      have r2 : rd (P ++ A ++ x :: Q) ((P.length + A.length : Nat) : Int) = x := yY _ _ _ (by simp)
      rw [hh, Yg (by simp only [List.length_append, List.length_cons]; omega), qf, Yg (by simp only [List.length_append, List.length_cons]; omega), qf, r1, r2, jq, jq, BI, qN.bind_ok, Q9, zu, qq]
      by_cases hc : x.often_ < (rd A (h : Int)).often_
      · rw [if_pos hc]
        exact ih i h hi1 (by omega) (by omega) hlo (fun t ht htl => by have := hA.rd (i := h) (j := t) ht htl; omega)
      · rw [if_neg hc, qF, show qi (((P.length + h : Nat) : Int) + 1) = ((P.length + (h + 1) : Nat) : Int) from by rw [qs (by omega) (by omega)]; omega]
        exact ih (h + 1) j (by omega) h2 (by omega) (fun t ht => by have := hA.rd (i := t) (j := h) (by omega) (by omega); omega) hhi
    · rw [if_neg (by omega)]
      have : i = j := by omega
      subst this
      exact ⟨i, h2, hlo, hhi, rfl⟩
theorem GB (K : Nat) (rc : List PK → Int → Int → Int → qN (List PK)) (x : PK) (P : List PK) : ∀ (k : Nat) (D Q : List PK), D.length < k → (P ++ D ++ x :: Q).length < 549755813888 →
    qa.l7 K rc (P.length : Int) k (P ++ D ++ x :: Q) ((P.length + D.length : Nat) : Int) = .ok (P ++ x :: (D ++ Q)) := by
  intro k
  induction k with
  | zero => intro D Q h; omega
  | succ k ih =>
    intro D Q hk hl
    simp only [List.length_append, List.length_cons] at hl
    rcases uN D with rfl | ⟨D', y, rfl⟩
    · rw [qa.l7, qq, if_neg (by simp)]; simp
    · simp only [List.length_append, List.length_cons, List.length_nil] at hl hk ⊢
      have ej : (((P.length + (D'.length + (0 + 1)) : Nat)) : Int) = ((P ++ (D' ++ [y])).length : Int) := by simp
      have ej1 : qi (((P.length + (D'.length + (0 + 1)) : Nat) : Int) - 1) = ((P ++ D').length : Int) := by rw [qs (by omega) (by omega)]; simp only [List.length_append]; omega
      have d1 : P ++ (D' ++ [y]) ++ x :: Q = (P ++ D') ++ y :: (x :: Q) := by simp
      have r1 : rd (P ++ (D' ++ [y]) ++ x :: Q) (((P.length + (D'.length + (0 + 1)) : Nat)) : Int) = x := yY _ _ _ ej
      have r2 : rd (P ++ (D' ++ [y]) ++ x :: Q) ((P ++ D').length : Int) = y := by rw [d1]; exact yY _ _ _ rfl
      have b1 : inb (((P.length + (D'.length + (0 + 1)) : Nat)) : Int) (P ++ (D' ++ [y]) ++ x :: Q).length = true := y9 _ _ _ ej
      have b2 : inb ((P ++ D').length : Int) (P ++ (D' ++ [y]) ++ x :: Q).length = true := by rw [d1]; exact y9 _ _ _ rfl
      have s1 : (P ++ (D' ++ [y]) ++ x :: Q).set (Int.toNat (((P.length + (D'.length + (0 + 1)) : Nat)) : Int)) y = (P ++ D') ++ y :: (y :: Q) := by rw [u4 _ _ _ _ ej]; simp
      rw [qa.l7, qq, if_pos (by omega), ej1, b2, qf, b1, qf, r1, r2, jq, jq, s1, qF, y9 _ _ _ rfl, qf, u4 _ _ _ _ rfl, qF, qF]
      have := ih D' (y :: Q) (by omega) (by simp only [List.length_append, List.length_cons]; omega)
      rw [show ((P ++ D').length : Int) = ((P.length + D'.length : Nat) : Int) from by simp, this]
      simp
theorem GH (K : Nat) (rc : List PK → Int → Int → Int → qN (List PK)) (P B Q : List PK) (x : PK) (hB : jD B) (hl : (P ++ [x] ++ B ++ Q).length < 549755813888) (hK : B.length < K) :
    ∃ M, SS ([x] ++ B) M ∧ qa.l1 K rc (P ++ [x] ++ B ++ Q) (P.length : Int) K ((P.length + 1 : Nat) : Int) ((P.length + 1 + B.length : Nat) : Int) = .ok (P ++ M ++ Q) := by
  obtain ⟨q, h1, h2, h3, h4⟩ := DS K rc P B Q x hB hl K 0 B.length (by omega) (by omega) (by omega) (fun t ht => by omega) (fun t ht htl => by omega)
  have hq : (B.take q).length = q := by rw [List.length_take]; omega
  refine ⟨B.take q ++ x :: B.drop q, ⟨?_, ?_, fun k => ?_⟩, ?_⟩
  · refine jD.append (A := B.take q) (hB.sublist (List.take_sublist ..)) (List.pairwise_cons.2 ⟨fun y hy => ?_, hB.sublist (List.drop_sublist ..)⟩) fun a ha y hy => ?_
    · obtain ⟨i, hi, rfl⟩ := jR hy
      rw [List.length_drop] at hi
      rw [Jg]; exact h3 _ (by omega) (by omega)
    · obtain ⟨i, hi, rfl⟩ := jR ha
      rw [hq] at hi
      rw [Jh hi]
      have hax := h2 i hi
      rcases List.mem_cons.1 hy with rfl | hy
      · omega
      · obtain ⟨j, hj, rfl⟩ := jR hy
        rw [List.length_drop] at hj
        rw [Jg]; exact hB.rd (by omega) (by omega)
  · refine List.Perm.trans ?_ (List.Perm.of_eq (by simp : [x] ++ (B.take q ++ B.drop q) = [x] ++ B))
    rw [← List.append_assoc, show B.take q ++ x :: B.drop q = (B.take q ++ [x]) ++ B.drop q from by simp]
    exact List.Perm.append_right _ List.perm_append_comm
  · have := Qm (X := [x]) (Y := B.take q) (fun a ha y hy => by
      simp at ha; subst ha
      obtain ⟨i, hi, rfl⟩ := jR hy
      rw [hq] at hi
      rw [Jh hi]; exact h2 i hi) k
    rw [show B.take q ++ x :: B.drop q = (B.take q ++ [x]) ++ B.drop q from by simp, List.filter_append, ← this, ← List.filter_append, List.append_assoc, List.take_append_drop]
  · rw [show ((P.length + 1 + 0 : Nat) : Int) = ((P.length + 1 : Nat) : Int) from rfl] at h4
    rw [h4]
    unfold qa.j2
    have hl' := hl
    simp only [List.length_append, List.length_cons, List.length_nil] at hl'
    have := DJ K rc x (B.take q) P (B.drop q ++ Q) K (by omega) (by simp only [List.length_append, List.length_cons, List.length_drop]; omega) ((P.length + 1 + q : Nat) : Int) (by rw [hq])
    rw [show P ++ x :: (B.take q ++ (B.drop q ++ Q)) = P ++ [x] ++ B ++ Q from by rw [← List.append_assoc (B.take q), List.take_append_drop]; simp] at this
    rw [this]
    simp
theorem GG (K : Nat) (rc : List PK → Int → Int → Int → qN (List PK)) (P A Q : List PK) (x : PK) (hA : jD A) (hl : (P ++ A ++ x :: Q).length < 549755813888) (hK : A.length < K) :
    ∃ M, SS (A ++ [x]) M ∧ qa.l5 K rc (P ++ A ++ x :: Q) ((P.length + A.length : Nat) : Int) K (P.length : Int) ((P.length + A.length : Nat) : Int) = .ok (P ++ M ++ Q) := by
  obtain ⟨q, h1, h2, h3, h4⟩ := DR K rc P A Q x hA hl K 0 A.length (by omega) (by omega) (by omega) (fun t ht => by omega) (fun t ht htl => by omega)
  have hq : (A.take q).length = q := by rw [List.length_take]; omega
  refine ⟨A.take q ++ x :: A.drop q, ?_, ?_⟩
  · have := SS.ins (A1 := A.take q) (A2 := A.drop q) (x := x) (by rw [List.take_append_drop]; exact hA) (fun y hy => by
      obtain ⟨i, hi, rfl⟩ := jR hy
      rw [hq] at hi
      rw [Jh hi]; exact h2 i hi) (fun y hy => by
      obtain ⟨i, hi, rfl⟩ := jR hy
      rw [List.length_drop] at hi
      rw [Jg]; exact h3 _ (by omega) (by omega))
    rwa [List.take_append_drop] at this
  · rw [show ((P.length + 0 : Nat) : Int) = (P.length : Int) from rfl] at h4
    rw [h4]
    unfold qa.j6
    have hl' := hl
    simp only [List.length_append, List.length_cons] at hl'
    have := GB K rc x (P ++ A.take q) K (A.drop q) Q (by rw [List.length_drop]; omega) (by simp only [List.length_append, List.length_cons, List.length_drop, hq]; omega)
    rw [show P ++ A.take q ++ A.drop q ++ x :: Q = P ++ A ++ x :: Q from by rw [List.append_assoc P, List.take_append_drop], show ((P ++ A.take q).length + (A.drop q).length : Nat) = P.length + A.length from by simp only [List.length_append, List.length_drop, hq]; omega,
      show ((P ++ A.take q).length : Int) = ((P.length + q : Nat) : Int) from by simp only [List.length_append, hq]] at this
    rw [this]
    simp
end Go.Pu

set_option maxRecDepth 100000
namespace Go.Pu
open Go Go.Sl Go.Mo
theorem SS.join {A1 A2 B1 B2 M1 M2 : List PK} (h1 : SS (A1 ++ B1) M1) (h2 : SS (A2 ++ B2) M2) (hA : jD (A1 ++ A2)) (hB : jD (B1 ++ B2)) (h12 : ∀ x ∈ A1, ∀ y ∈ B2, x.often_ ≤ y.often_) (h21 : ∀ x ∈ B1, ∀ y ∈ A2, x.often_ < y.often_) :
    SS ((A1 ++ A2) ++ (B1 ++ B2)) (M1 ++ M2) := by
  refine ⟨jD.append h1.1 h2.1 fun x hx y hy => ?_, ?_, fun k => ?_⟩
  · have hx' := h1.2.1.mem_iff.1 hx
    have hy' := h2.2.1.mem_iff.1 hy
    rcases List.mem_append.1 hx' with hx' | hx' <;> rcases List.mem_append.1 hy' with hy' | hy'
    · exact hA.cross x hx' y hy'
    · exact h12 x hx' y hy'
    · exact Int.le_of_lt (h21 x hx' y hy')
    · exact hB.cross x hx' y hy'
  · refine (h1.2.1.append h2.2.1).trans ?_
    simp only [List.append_assoc]
    refine List.Perm.append_left _ ?_
    rw [← List.append_assoc, ← List.append_assoc]
    exact List.Perm.append_right _ List.perm_append_comm
  · have := Qm (X := A2) (Y := B1) (fun x hx y hy => h21 y hy x hx) k
    simp only [List.filter_append] at this
    simp only [List.filter_append, h1.2.2 k, h2.2.2 k]
    rw [List.append_assoc, List.append_assoc, ← List.append_assoc (List.filter _ B1), ← this]
    simp only [List.append_assoc]
section
variable (K : Nat) (rc : List PK → Int → Int → Int → qN (List PK)) (P A B Q : List PK)
theorem Gt (hA : jD A) (hB : jD B) (hl : (P ++ A ++ B ++ Q).length < 274877906944) (mid : Nat) (hmid : 2 * mid ≤ 2 * P.length + A.length + B.length) (hmid2 : P.length ≤ mid) {md n_ p_ a_ m_ b_ : Int} (hn : n_ = ((mid + (P.length + A.length) : Nat) : Int)) (hp : p_ = ((mid + (P.length + A.length) : Nat) : Int) - 1) :
    ∀ (k s r : Nat), s ≤ r → r ≤ A.length → P.length + r ≤ mid → mid ≤ P.length + s + B.length → r - s < k → (∀ t, t < s → t < A.length → ∀ j, mid - P.length - s ≤ j → j < B.length → (rd A (t : Int)).often_ ≤ (rd B (j : Int)).often_) →
    (∀ t, r ≤ t → t < A.length → ∀ j, j < mid - P.length - r → (rd B (j : Int)).often_ < (rd A (t : Int)).often_) →
    ∃ q, s ≤ q ∧ q ≤ r ∧ (∀ t, t < q → t < A.length → ∀ j, mid - P.length - q ≤ j → j < B.length → (rd A (t : Int)).often_ ≤ (rd B (j : Int)).often_) ∧
      (∀ t, q ≤ t → t < A.length → ∀ j, j < mid - P.length - q → (rd B (j : Int)).often_ < (rd A (t : Int)).often_) ∧
      qa.l10 K rc (P ++ A ++ B ++ Q) a_ m_ b_ md n_ p_ k ((P.length + s : Nat) : Int) ((P.length + r : Nat) : Int) =
        qa.j11 K rc (P ++ A ++ B ++ Q) a_ m_ b_ md n_ ((P.length + q : Nat) : Int) := by
  intro k
  induction k with
  | zero => intro s r h1 h2 h3 h4 h5; omega
  | succ k ih =>
    intro s r h1 h2 h3 h4 h5 hlo hhi
    have hl' := hl
    simp only [List.length_append] at hl'
    rw [qa.l10, qq]
    by_cases hsr : s < r
    · rw [if_pos (by omega), V7 (by omega), qF]
      obtain ⟨c, hc⟩ : ∃ c, (P.length + s + (P.length + r)) / 2 = P.length + c := ⟨(P.length + s + (P.length + r)) / 2 - P.length, by omega⟩
      have hc1 : s ≤ c := by omega
      have hc2 : c < r := by omega
      -- the place in B
      obtain ⟨j, hj⟩ : ∃ j, mid - P.length - 1 - c = j := ⟨_, rfl⟩
      have hjl : j < B.length := by omega
      have e1 : qi (p_ - ((P.length + c : Nat) : Int)) = ((P.length + A.length + j : Nat) : Int) := by subst hp; rw [qs (by omega) (by omega)]; omega
      have r1 : rd (P ++ A ++ B ++ Q) ((P.length + A.length + j : Nat) : Int) = rd B (j : Int) := by
        have := ZI (P ++ A) (B ++ Q) j
        rw [jC B Q hjl] at this
        simpa using this
      have r2 : rd (P ++ A ++ B ++ Q) ((P.length + c : Nat) : Int) = rd A (c : Int) := by
        have := ZI P (A ++ (B ++ Q)) c
        rw [jC A (B ++ Q) (by omega)] at this
        simpa using this
      rw [hc, e1, Yg (by simp only [List.length_append]; omega), qf, Yg (by simp only [List.length_append]; omega), qf, r1, r2, jq, jq, BI, qN.bind_ok, Q9, zu, qq]
      by_cases hlt : (rd B (j : Int)).often_ < (rd A (c : Int)).often_
      · rw [if_pos hlt]
        obtain ⟨q, q1, q2, q3⟩ := ih s c hc1 (by omega) (by omega) h4 (by omega) hlo (fun t ht htl i hi => by
          have g1 := hA.rd (i := c) (j := t) ht htl
          have g2 := hB.rd (i := i) (j := j) (by omega) hjl
          omega)
        exact ⟨q, q1, by omega, q3⟩
      · rw [if_neg hlt, qF, show qi (((P.length + c : Nat) : Int) + 1) = ((P.length + (c + 1) : Nat) : Int) from by rw [qs (by omega) (by omega)]; omega]
        obtain ⟨q, q1, q2, q3⟩ := ih (c + 1) r (by omega) h2 h3 (by omega) (by omega) (fun t ht htl i hi hil => by
          have g1 := hA.rd (i := t) (j := c) (by omega) (by omega)
          have g2 := hB.rd (i := j) (j := i) (by omega) hil
          omega) hhi
        exact ⟨q, by omega, q2, q3⟩
    · rw [if_neg (by omega)]
      have : s = r := by omega
      subst this
      exact ⟨s, Nat.le_refl _, Nat.le_refl _, hlo, hhi, rfl⟩
end
theorem Bx (K : Nat) : ∀ (d : Nat) (P A B Q : List PK), jD A → jD B → 0 < A.length → 0 < B.length → A.length + B.length ≤ d → (P ++ A ++ B ++ Q).length < 274877906944 → (P ++ A ++ B ++ Q).length < K →
    ∃ M, SS (A ++ B) M ∧ qa.r K d (P ++ A ++ B ++ Q) (P.length : Int) ((P.length + A.length : Nat) : Int) ((P.length + A.length + B.length : Nat) : Int) = .ok (P ++ M ++ Q) := by
  intro d
  induction d with
  | zero => intro P A B Q _ _ h0 h1 h; omega
  | succ d ih =>
    intro P A B Q hA hB hA0 hB0 hd hl hK
    have hl' := hl; have hK' := hK
    simp only [List.length_append] at hl' hK'
    rw [qa.r, qa.b, qZ, qs (by omega) (by omega)]
    by_cases hA1 : A.length = 1
    · rw [if_pos (by omega)]
      obtain ⟨x, rfl⟩ := List.length_eq_one_iff.1 hA1
      exact GH K _ P B Q x hB (by omega) (by omega)
    rw [if_neg (by omega)]
    unfold qa.j4
    rw [qZ, qs (by omega) (by omega)]
    by_cases hB1 : B.length = 1
    · rw [if_pos (by omega)]
      obtain ⟨x, rfl⟩ := List.length_eq_one_iff.1 hB1
      have := GG K (qa.r K d) P A Q x hA (by simp only [List.length_append, List.length_cons] at hl ⊢; simp only [List.length_nil] at hl; omega) (by omega)
      simpa using this
    rw [if_neg (by omega)]
    unfold qa.j8
    obtain ⟨mid, hmid⟩ : ∃ mid, (P.length + (P.length + A.length + B.length)) / 2 = mid := ⟨_, rfl⟩
    rw [V7 (by omega), hmid, qF, show qi ((mid : Int) + ((P.length + A.length : Nat) : Int)) = ((mid + (P.length + A.length) : Nat) : Int) from by rw [qs (by omega) (by omega)]; omega, qF, qq]
    -- the two ways to begin
    have key : ∃ s0 r0, s0 ≤ r0 ∧ r0 ≤ A.length ∧ P.length + r0 ≤ mid ∧ mid ≤ P.length + s0 + B.length ∧ (s0 = 0 ∨ mid = P.length + s0 + B.length) ∧ (r0 = A.length ∨ P.length + r0 = mid) ∧
        (if ((P.length + A.length : Nat) : Int) > (mid : Int) then lt (qi (((mid + (P.length + A.length) : Nat) : Int) - ((P.length + A.length + B.length : Nat) : Int))) fun start5172 => qa.j9 K (qa.r K d) (P ++ A ++ B ++ Q) (P.length : Int) ((P.length + A.length : Nat) : Int) ((P.length + A.length + B.length : Nat) : Int) (mid : Int) ((mid + (P.length + A.length) : Nat) : Int) start5172 (mid : Int)
          else qa.j9 K (qa.r K d) (P ++ A ++ B ++ Q) (P.length : Int) ((P.length + A.length : Nat) : Int) ((P.length + A.length + B.length : Nat) : Int) (mid : Int) ((mid + (P.length + A.length) : Nat) : Int) (P.length : Int) ((P.length + A.length : Nat) : Int)) =
        qa.j9 K (qa.r K d) (P ++ A ++ B ++ Q) (P.length : Int) ((P.length + A.length : Nat) : Int) ((P.length + A.length + B.length : Nat) : Int) (mid : Int) ((mid + (P.length + A.length) : Nat) : Int) ((P.length + s0 : Nat) : Int) ((P.length + r0 : Nat) : Int) := by
      by_cases hm : ((P.length + A.length : Nat) : Int) > (mid : Int)
      · refine ⟨mid - P.length - B.length, mid - P.length, by omega, by omega, by omega, by omega, by omega, by omega, ?_⟩
        rw [if_pos hm, qF]
        congr 1
        · rw [qs (by omega) (by omega)]; omega
        · omega
      · refine ⟨0, A.length, by omega, by omega, by omega, by omega, by omega, by omega, ?_⟩
        rw [if_neg hm]
        rfl
    obtain ⟨s0, r0, g1, g2, g3, g4, g5, g6, g7⟩ := key
    rw [g7]
    unfold qa.j9
    rw [qF]
    obtain ⟨q, q1, q2, q3, q4, q5⟩ := Gt K (qa.r K d) P A B Q hA hB hl mid (by omega) (by omega) (md := (mid : Int)) (n_ := ((mid + (P.length + A.length) : Nat) : Int)) (p_ := qi (((mid + (P.length + A.length) : Nat) : Int) - 1)) (a_ := (P.length : Int))
      (m_ := ((P.length + A.length : Nat) : Int)) (b_ := ((P.length + A.length + B.length : Nat) : Int)) rfl (qs (by omega) (by omega)) K s0 r0 g1 g2 g3 g4 (by omega) (fun t ht htl j hj hjl => by omega) (fun t ht htl j hj => by omega)
    rw [q5]
    -- the four parts
    obtain ⟨A1, A2, rfl, hA1l⟩ : ∃ A1 A2, A = A1 ++ A2 ∧ A1.length = q := ⟨A.take q, A.drop q, by simp, by rw [List.length_take]; omega⟩
    obtain ⟨B1, B2, rfl, hB1l⟩ : ∃ B1 B2, B = B1 ++ B2 ∧ B1.length = mid - P.length - q := ⟨B.take (mid - P.length - q), B.drop (mid - P.length - q), by simp, by rw [List.length_take]; omega⟩
    have h12 : ∀ x ∈ A1, ∀ y ∈ B2, x.often_ ≤ y.often_ := by
      intro x hx y hy
      obtain ⟨i, hi, rfl⟩ := jR hx
      obtain ⟨j, hj, rfl⟩ := jR hy
      have := q3 i (by omega) (by simp only [List.length_append]; omega) (B1.length + j) (by omega) (by simp only [List.length_append]; omega)
      rwa [jC _ _ hi, ZI] at this
    have h21 : ∀ x ∈ B1, ∀ y ∈ A2, x.often_ < y.often_ := by
      intro x hx y hy
      obtain ⟨j, hj, rfl⟩ := jR hx
      obtain ⟨i, hi, rfl⟩ := jR hy
      have := q4 (A1.length + i) (by omega) (by simp only [List.length_append]; omega) j (by omega)
      rwa [jC _ _ hj, ZI] at this
    simp only [List.length_append] at hl' hK' hd hA0 hB0 hA1 hB1 g2 g4 g5 g6 hmid
    unfold qa.j11
    rw [show qi (((mid + (P.length + (A1 ++ A2).length) : Nat) : Int) - ((P.length + q : Nat) : Int)) = ((P.length + A1.length + A2.length + B1.length : Nat) : Int) from by simp only [List.length_append]; rw [qs (by omega) (by omega)]; omega, qF]
    -- turned round, or not
    have hrot : ∀ g : List PK → qN (List PK), (cond (decide (((P.length + q : Nat) : Int) < ((P.length + (A1 ++ A2).length : Nat) : Int)) && decide (((P.length + (A1 ++ A2).length : Nat) : Int) < ((P.length + A1.length + A2.length + B1.length : Nat) : Int)))
        ((qw.m K (P ++ (A1 ++ A2) ++ (B1 ++ B2) ++ Q) ((P.length + q : Nat) : Int) ((P.length + (A1 ++ A2).length : Nat) : Int) ((P.length + A1.length + A2.length + B1.length : Nat) : Int)).bind g)
        (g (P ++ (A1 ++ A2) ++ (B1 ++ B2) ++ Q))) = g (P ++ A1 ++ B1 ++ (A2 ++ B2 ++ Q)) := by
      intro g
      simp only [List.length_append]
      by_cases hA2 : A2.length = 0
      · have := List.length_eq_zero_iff.1 hA2
        subst this
        rw [show decide (((P.length + q : Nat) : Int) < ((P.length + (A1.length + ([] : List PK).length) : Nat) : Int)) = false from by simp only [List.length_nil, decide_eq_false_iff_not]; omega]
        simp
      · by_cases hB2 : B1.length = 0
        · have := List.length_eq_zero_iff.1 hB2
          subst this
          rw [show decide (((P.length + (A1.length + A2.length) : Nat) : Int) < ((P.length + A1.length + A2.length + ([] : List PK).length : Nat) : Int)) = false from by simp only [List.length_nil, decide_eq_false_iff_not]; omega]
          simp
        · rw [show decide (((P.length + q : Nat) : Int) < ((P.length + (A1.length + A2.length) : Nat) : Int)) = true from by simp only [decide_eq_true_eq]; omega, show decide (((P.length + (A1.length + A2.length) : Nat) : Int) < ((P.length + A1.length + A2.length + B1.length : Nat) : Int)) = true from by simp only [decide_eq_true_eq]; omega,
            Bool.and_self, cond_true]
          have := Ga K (P ++ A1) A2 B1 (B2 ++ Q) (by omega) (by omega) (by simp only [List.length_append]; omega) (by simp only [List.length_append]; omega) (a := ((P.length + q : Nat) : Int)) (m := ((P.length + (A1.length + A2.length) : Nat) : Int)) (b := ((P.length + A1.length + A2.length + B1.length : Nat) : Int))
            (by simp only [List.length_append]; omega) (by simp only [List.length_append]; omega) (by simp only [List.length_append])
          rw [show P ++ (A1 ++ A2) ++ (B1 ++ B2) ++ Q = P ++ A1 ++ A2 ++ B1 ++ (B2 ++ Q) from by simp, this, qN.bind_ok]
          simp
    rw [hrot]
    unfold qa.j12
    -- the first half
    have hfirst : ∃ M1, SS (A1 ++ B1) M1 ∧ ∀ g : List PK → qN (List PK), (cond (decide ((P.length : Int) < ((P.length + q : Nat) : Int)) && decide (((P.length + q : Nat) : Int) < (mid : Int)))
        ((qa.r K d (P ++ A1 ++ B1 ++ (A2 ++ B2 ++ Q)) (P.length : Int) ((P.length + q : Nat) : Int) (mid : Int)).bind g) (g (P ++ A1 ++ B1 ++ (A2 ++ B2 ++ Q)))) = g (P ++ M1 ++ (A2 ++ B2 ++ Q)) := by
      by_cases h0 : A1.length = 0
      · have := List.length_eq_zero_iff.1 h0
        subst this
        refine ⟨B1, by simpa using SS.refl hB.left, fun g => ?_⟩
        rw [show decide ((P.length : Int) < ((P.length + q : Nat) : Int)) = false from by simp only [decide_eq_false_iff_not]; simp only [List.length_nil] at hA1l; omega]
        simp
      · by_cases h1 : B1.length = 0
        · have := List.length_eq_zero_iff.1 h1
          subst this
          refine ⟨A1, by simpa using SS.refl hA.left, fun g => ?_⟩
          rw [show decide (((P.length + q : Nat) : Int) < (mid : Int)) = false from by simp only [decide_eq_false_iff_not]; simp only [List.length_nil] at hB1l; omega]
          simp
        · obtain ⟨M1, m1, m2⟩ := ih P A1 B1 (A2 ++ B2 ++ Q) hA.left hB.left (by omega) (by omega) (by omega) (by simp only [List.length_append]; omega) (by simp only [List.length_append]; omega)
          refine ⟨M1, m1, fun g => ?_⟩
          rw [show decide ((P.length : Int) < ((P.length + q : Nat) : Int)) = true from by simp only [decide_eq_true_eq]; omega, show decide (((P.length + q : Nat) : Int) < (mid : Int)) = true from by simp only [decide_eq_true_eq]; omega, Bool.and_self, cond_true,
            show ((P.length + q : Nat) : Int) = ((P.length + A1.length : Nat) : Int) from by rw [hA1l], show (mid : Int) = ((P.length + A1.length + B1.length : Nat) : Int) from by omega, m2]
          rfl
    obtain ⟨M1, hM1, hg1⟩ := hfirst
    rw [hg1]
    unfold qa.j13
    have hM1l : M1.length = A1.length + B1.length := by have := hM1.2.1.length_eq; simpa using this
    have hsecond : ∃ M2, SS (A2 ++ B2) M2 ∧ (cond (decide ((mid : Int) < ((P.length + A1.length + A2.length + B1.length : Nat) : Int)) && decide (((P.length + A1.length + A2.length + B1.length : Nat) : Int) < ((P.length + (A1 ++ A2).length + (B1 ++ B2).length : Nat) : Int)))
        ((qa.r K d (P ++ M1 ++ (A2 ++ B2 ++ Q)) (mid : Int) ((P.length + A1.length + A2.length + B1.length : Nat) : Int) ((P.length + (A1 ++ A2).length + (B1 ++ B2).length : Nat) : Int)).bind fun data => .ok data) (.ok (P ++ M1 ++ (A2 ++ B2 ++ Q)))) = .ok (P ++ (M1 ++ M2) ++ Q) := by
      simp only [List.length_append]
      by_cases h0 : A2.length = 0
      · have := List.length_eq_zero_iff.1 h0
        subst this
        refine ⟨B2, by simpa using SS.refl hB.right, ?_⟩
        rw [show decide ((mid : Int) < ((P.length + A1.length + ([] : List PK).length + B1.length : Nat) : Int)) = false from by simp only [List.length_nil, decide_eq_false_iff_not]; omega]
        simp
      · by_cases h1 : B2.length = 0
        · have := List.length_eq_zero_iff.1 h1
          subst this
          refine ⟨A2, by simpa using SS.refl hA.right, ?_⟩
          rw [show decide (((P.length + A1.length + A2.length + B1.length : Nat) : Int) < ((P.length + (A1.length + A2.length) + (B1.length + ([] : List PK).length) : Nat) : Int)) = false from by simp only [List.length_nil, decide_eq_false_iff_not]; omega]
          simp
        · obtain ⟨M2, m1, m2⟩ := ih (P ++ M1) A2 B2 Q hA.right hB.right (by omega) (by omega) (by omega) (by simp only [List.length_append]; omega) (by simp only [List.length_append]; omega)
          refine ⟨M2, m1, ?_⟩
          rw [show decide ((mid : Int) < ((P.length + A1.length + A2.length + B1.length : Nat) : Int)) = true from by simp only [decide_eq_true_eq]; omega, show decide (((P.length + A1.length + A2.length + B1.length : Nat) : Int) < ((P.length + (A1.length + A2.length) + (B1.length + B2.length) : Nat) : Int)) = true from by simp only [decide_eq_true_eq]; omega, Bool.and_self, cond_true]
          rw [show P ++ M1 ++ (A2 ++ B2 ++ Q) = P ++ M1 ++ A2 ++ B2 ++ Q from by simp, show (mid : Int) = ((P ++ M1).length : Int) from by simp only [List.length_append]; omega,
            show ((P.length + A1.length + A2.length + B1.length : Nat) : Int) = (((P ++ M1).length + A2.length : Nat) : Int) from by simp only [List.length_append]; omega,
            show ((P.length + (A1.length + A2.length) + (B1.length + B2.length) : Nat) : Int) = (((P ++ M1).length + A2.length + B2.length : Nat) : Int) from by simp only [List.length_append]; omega, m2]
          simp
    obtain ⟨M2, hM2, hg2⟩ := hsecond
    exact ⟨M1 ++ M2, SS.join hM1 hM2 hA hB h12 h21, hg2⟩
end Go.Pu

set_option maxRecDepth 100000
namespace Go.Pu
open Go Go.Sl Go.Mo
def SF (l l' : List PK) : Prop := l'.Perm l ∧ ∀ k : Int, l'.filter (fun x => x.often_ == k) = l.filter (fun x => x.often_ == k)
theorem SF.refl (l : List PK) : SF l l := ⟨List.Perm.refl _, fun _ => rfl⟩
theorem SF.trans {a b c : List PK} (h : SF a b) (h' : SF b c) : SF a c := ⟨h'.1.trans h.1, fun k => (h'.2 k).trans (h.2 k)⟩
theorem SF.append {a b c d : List PK} (h : SF a b) (h' : SF c d) : SF (a ++ c) (b ++ d) := ⟨h.1.append h'.1, fun k => by rw [List.filter_append, List.filter_append, h.2 k, h'.2 k]⟩
theorem SS.sf {a b : List PK} (h : SS a b) : SF a b := ⟨h.2.1, h.2.2⟩
theorem SS.of {a b : List PK} (h : SF a b) (h' : jD b) : SS a b := ⟨h', h.1, h.2⟩
theorem SF.len {a b : List PK} (h : SF a b) : b.length = a.length := h.1.length_eq
inductive Bk (bs : Nat) : List PK → Prop
  | last {X : List PK} (h : jD X) (hl : X.length ≤ bs) : Bk bs X
  | cons {X T : List PK} (h : jD X) (hl : X.length = bs) (ht : Bk bs T) : Bk bs (X ++ T)
theorem UN (K : Nat) (hK : (1099511627776 : Nat) > K) (N : Nat) (hN : N + 1 < K) : ∀ (k : Nat) (D T : List PK), D.length + T.length = N → T.length < 20 * k →
    ∃ T', SF T T' ∧ Bk 20 T' ∧ qe.l1 K (N : Int) k (D ++ T) (D.length : Int) ((D.length + 20 : Nat) : Int) = qe.l3 K (N : Int) K (D ++ T') 20 := by
  intro k
  induction k with
  | zero => intro D T _ h; omega
  | succ k ih =>
    intro D T h1 h2
    rw [qe.l1, qq]
    by_cases hc : D.length + 20 ≤ N
    · rw [if_pos (by omega)]
      obtain ⟨X, T2, rfl, hX⟩ : ∃ X T2, T = X ++ T2 ∧ X.length = 20 := ⟨T.take 20, T.drop 20, by simp, by rw [List.length_take]; omega⟩
      simp only [List.length_append] at h1 h2
      obtain ⟨X', x1, x2⟩ := Yv K D X T2 hK (by simp only [List.length_append]; omega) (a := (D.length : Int)) (b := ((D.length + 20 : Nat) : Int)) rfl (by rw [hX])
      have hX' := x1.sf.len
      obtain ⟨T', t1, t2, t3⟩ := ih (D ++ X') T2 (by simp only [List.length_append]; omega) (by omega)
      refine ⟨X' ++ T', x1.sf.append t1, .cons x1.1 (by omega) t2, ?_⟩
      rw [← List.append_assoc, x2, qN.bind_ok, qF, show qi (((D.length + 20 : Nat) : Int) + 20) = (((D ++ X').length + 20 : Nat) : Int) from by rw [qs (by omega) (by omega)]; simp only [List.length_append]; omega,
        show ((D.length + 20 : Nat) : Int) = ((D ++ X').length : Int) from by simp only [List.length_append]; omega, t3]
      simp
    · rw [if_neg (by omega)]
      unfold qe.j2
      obtain ⟨T', t1, t2⟩ := Yv K D T [] hK (by simp only [List.length_append, List.length_nil]; omega) (a := (D.length : Int)) (b := (N : Int)) rfl (by omega)
      refine ⟨T', t1.sf, .last t1.1 (by have := t1.sf.len; omega), ?_⟩
      simp only [List.append_nil] at t2
      rw [t2]; rfl
theorem Bk.two {bs : Nat} {T : List PK} (h : Bk bs T) (hl : 2 * bs ≤ T.length) (hb : 0 < bs) : ∃ X Y T2, T = X ++ Y ++ T2 ∧ X.length = bs ∧ Y.length = bs ∧ jD X ∧ jD Y ∧ Bk bs T2 := by
  cases h with
  | last h hl2 => omega
  | @cons X T h hl2 ht =>
    simp only [List.length_append] at hl
    cases ht with
    | last h' hl' => exact ⟨X, T, [], by simp, hl2, by omega, h, h', .last List.Pairwise.nil (by simp)⟩
    | @cons Y T2 h' hl' ht' => exact ⟨X, Y, T2, by simp, hl2, hl', h, h', ht'⟩
theorem Bk.rest {bs : Nat} {T : List PK} (h : Bk bs T) (hl : T.length < 2 * bs) : jD T ∧ T.length ≤ bs ∨ ∃ X Y, T = X ++ Y ∧ X.length = bs ∧ jD X ∧ jD Y ∧ Y.length < bs := by
  cases h with
  | last h hl2 => exact .inl ⟨h, hl2⟩
  | @cons X T h hl2 ht =>
    simp only [List.length_append] at hl
    cases ht with
    | last h' hl' => exact .inr ⟨X, T, rfl, hl2, h, h', by omega⟩
    | @cons Y T2 h' hl' ht' =>
      simp only [List.length_append] at hl; omega
theorem YL (K : Nat) (P A B Q : List PK) (hA : jD A) (hB : jD B) (hA0 : 0 < A.length) (hB0 : 0 < B.length) (hl : (P ++ A ++ B ++ Q).length < 274877906944) (hK : (P ++ A ++ B ++ Q).length < K) {a m b : Int} (ha : a = (P.length : Int)) (hm : m = ((P.length + A.length : Nat) : Int)) (hb : b = ((P.length + A.length + B.length : Nat) : Int)) :
    ∃ M, SS (A ++ B) M ∧ qa.m K (P ++ A ++ B ++ Q) a m b = .ok (P ++ M ++ Q) := by
  subst ha; subst hm; subst hb
  exact Bx K K P A B Q hA hB hA0 hB0 (by simp only [List.length_append] at hK; omega) hl hK
theorem JP (K : Nat) (N : Nat) (hN : N + 1 < K) (hN2 : N < 137438953472) (g : List PK → Int → qN (List PK)) (bs : Nat) (hb : 0 < bs) (hb2 : bs < N) : ∀ (k : Nat) (D T : List PK), D.length + T.length = N → T.length < 2 * bs * k → Bk bs T →
    ∃ T', SF T T' ∧ Bk (2 * bs) T' ∧ qe.l4 K g (N : Int) (bs : Int) k (D ++ T) (D.length : Int) ((D.length + 2 * bs : Nat) : Int) = g (D ++ T') ((2 * bs : Nat) : Int) := by
  intro k
  induction k with
  | zero => intro D T _ h; omega
  | succ k ih =>
    intro D T h1 h2 hB
    rw [qe.l4, qq]
    by_cases hc : D.length + 2 * bs ≤ N
    · rw [if_pos (by omega)]
      obtain ⟨X, Y, T2, rfl, hX, hY, sX, sY, hT2⟩ := hB.two (by omega) hb
      simp only [List.length_append] at h1 h2
      obtain ⟨M, m1, m2⟩ := YL K D X Y T2 sX sY (by omega) (by omega) (by simp only [List.length_append]; omega) (by simp only [List.length_append]; omega) (a := (D.length : Int)) (m := qi ((D.length : Int) + (bs : Int))) (b := ((D.length + 2 * bs : Nat) : Int)) rfl
        (by rw [qs (by omega) (by omega)]; omega) (by omega)
      have hM := m1.sf.len
      simp only [List.length_append] at hM
      obtain ⟨T', t1, t2, t3⟩ := ih (D ++ M) T2 (by simp only [List.length_append]; omega) (by rw [Nat.mul_succ] at h2; omega) hT2
      refine ⟨M ++ T', m1.sf.append t1, .cons m1.1 (by omega) t2, ?_⟩
      rw [show D ++ (X ++ Y ++ T2) = D ++ X ++ Y ++ T2 from by simp, m2, qN.bind_ok, qF, show qi (2 * (bs : Int)) = ((2 * bs : Nat) : Int) from by rw [qs (by omega) (by omega)]; omega,
        show qi (((D.length + 2 * bs : Nat) : Int) + ((2 * bs : Nat) : Int)) = (((D ++ M).length + 2 * bs : Nat) : Int) from by rw [qs (by omega) (by omega)]; simp only [List.length_append]; omega,
        show ((D.length + 2 * bs : Nat) : Int) = ((D ++ M).length : Int) from by simp only [List.length_append]; omega, t3]
      simp
    · rw [if_neg (by omega)]
      unfold qe.j5
      rw [show qi ((D.length : Int) + (bs : Int)) = ((D.length + bs : Nat) : Int) from by rw [qs (by omega) (by omega)]; rfl, qF, qq, show qi ((bs : Int) * 2) = ((2 * bs : Nat) : Int) from by rw [qs (by omega) (by omega)]; omega]
      rcases hB.rest (by omega) with ⟨s1, s2⟩ | ⟨X, Y, rfl, hX, sX, sY, hY⟩
      · rw [if_neg (by omega), qF]
        exact ⟨T, SF.refl _, .last s1 (by omega), rfl⟩
      · simp only [List.length_append] at h1 h2
        by_cases hY0 : Y.length = 0
        · rw [if_neg (by omega), qF]
          have := List.length_eq_zero_iff.1 hY0
          subst this
          exact ⟨X ++ [], SF.refl _, .last (by simpa using sX) (by simp; omega), rfl⟩
        · rw [if_pos (by omega)]
          obtain ⟨M, m1, m2⟩ := YL K D X Y [] sX sY (by omega) (by omega) (by simp only [List.length_append, List.length_nil]; omega) (by simp only [List.length_append, List.length_nil]; omega) (a := (D.length : Int)) (m := ((D.length + bs : Nat) : Int)) (b := (N : Int)) rfl (by omega) (by omega)
          refine ⟨M, m1.sf, .last m1.1 (by have := m1.sf.len; simp only [List.length_append] at this; omega), ?_⟩
          simp only [List.append_nil] at m2
          rw [← List.append_assoc, m2, qN.bind_ok, qF]
theorem Bk.srt {bs : Nat} {T : List PK} (h : Bk bs T) (hl : T.length ≤ bs) : jD T := by
  cases h with
  | last h _ => exact h
  | @cons X T h hl2 ht =>
    simp only [List.length_append] at hl
    have : T = [] := List.length_eq_zero_iff.1 (by omega)
    subst this
    simpa using h
theorem KS (K : Nat) (N : Nat) (hN : N + 1 < K) (hN2 : N < 137438953472) : ∀ (k : Nat) (bs : Nat) (T : List PK), 0 < bs → T.length = N → N < bs + k → Bk bs T →
    ∃ T', SS T T' ∧ qe.l3 K (N : Int) (k + 1) T (bs : Int) = .ok T' := by
  intro k
  induction k with
  | zero =>
    intro bs T h0 h1 h2 hB
    refine ⟨T, SS.refl (hB.srt (by omega)), ?_⟩
    rw [qe.l3, qq, if_neg (by omega)]
  | succ k ih =>
    intro bs T h0 h1 h2 hB
    rw [qe.l3, qq]
    by_cases hc : bs < N
    · rw [if_pos (by omega), show qi (2 * (bs : Int)) = ((2 * bs : Nat) : Int) from by rw [qs (by omega) (by omega)]; omega, qF]
      have hmul : T.length < 2 * bs * K := by
        have : 1 * K ≤ 2 * bs * K := Nat.mul_le_mul_right K (by omega)
        omega
      obtain ⟨T1, t1, t2, t3⟩ := JP K N hN hN2 (qe.l3 K (N : Int) (k + 1)) bs h0 hc K [] T (by simpa using h1) hmul hB
      obtain ⟨T', s1, s2⟩ := ih (2 * bs) T1 (by omega) (by rw [t1.len]; exact h1) (by omega) t2
      refine ⟨T', SS.of (t1.trans s1.sf) s1.1, ?_⟩
      rw [← s2]
      simpa using t3
    · rw [if_neg (by omega)]
      exact ⟨T, SS.refl (hB.srt (by omega)), rfl⟩
theorem X5 (K : Nat) (l : List PK) (hK : (1099511627776 : Nat) > K) (hl : l.length + 1 < K) (hl2 : l.length < 137438953472) :
    ∃ l', SS l l' ∧ qT.m K l = .ok l' := by
  obtain ⟨k, rfl⟩ : ∃ m, K = m + 1 := ⟨K - 1, by omega⟩
  unfold qT.m qe.m
  obtain ⟨T, t1, t2, t3⟩ := UN (k + 1) hK l.length hl (k + 1) [] l (by simp) (by omega)
  obtain ⟨l', s1, s2⟩ := KS (k + 1) l.length hl hl2 k 20 T (by decide) t1.len (by omega) t2
  refine ⟨l', SS.of (t1.trans s1.sf) s1.1, ?_⟩
  have t3' : qe.l1 (k + 1) (l.length : Int) (k + 1) l 0 20 = qe.l3 (k + 1) (l.length : Int) (k + 1) T 20 := by simpa using t3
  rw [t3', show (20 : Int) = ((20 : Nat) : Int) from rfl, s2]
  rfl
theorem Bu : @qT.m = @qT.m := by kernel_rfl
end Go.Pu

set_option maxRecDepth 100000
namespace Go.Pu
open Go Go.Sl Go.Mo
theorem Gu (K : Nat) (n : Nat) (h : n < 1099511627776) : xL.m K (n : Int) = .ok () := by
  unfold xL.m
  rw [qq, if_neg (by omega), qF, show qi ((n : Int) - qi (0 - 0)) = (n : Int) from by rw [qs (x := 0 - 0) (by omega) (by omega), qs (by omega) (by omega)]; omega, qq]
  by_cases h0 : (n : Int) > 0
  · rw [if_pos h0, show (decide ((0 : Int) < (n : Int)) && room (Int.toNat (n : Int)) 8) = true from by rw [Bool.and_eq_true, decide_eq_true_eq]; exact ⟨h0, zg (by rw [Int.toNat_natCast]; omega)⟩, qf]
  · rw [if_neg h0]
theorem Gv (K : Nat) (n : Nat) (h : n < 1099511627776) : z7.m K (n : Int) = .ok () := by
  unfold z7.m
  rw [qq, if_neg (by omega), qF, show qi ((n : Int) - qi (0 - 0)) = (n : Int) from by rw [qs (x := 0 - 0) (by omega) (by omega), qs (by omega) (by omega)]; omega, qq]
  by_cases h0 : (n : Int) > 0
  · rw [if_pos h0, show (decide ((0 : Int) < (n : Int)) && room (Int.toNat (n : Int)) 32) = true from by rw [Bool.and_eq_true, decide_eq_true_eq]; exact ⟨h0, zg (by rw [Int.toNat_natCast]; omega)⟩, qf]
  · rw [if_neg h0]
theorem BJ (K : Nat) (a b : List Int) (hK : 3 ≤ K) (h : a.length + b.length < 1099511627776) : qS.m K [a, b] = .ok (a ++ b) := by
  obtain ⟨k, rfl⟩ : ∃ m, K = m + 3 := ⟨K - 3, by omega⟩
  have i0 : inb (0 : Int) ([a, b] : List (List Int)).length = true := rfl
  have i1 : inb (1 : Int) ([a, b] : List (List Int)).length = true := rfl
  have r0 : rd [a, b] (0 : Int) = a := rfl
  have r1 : rd [a, b] (1 : Int) = b := rfl
  have w1 : qi ((0 : Int) + 1) = 1 := rfl
  have w2 : qi ((1 : Int) + 1) = 2 := rfl
  have c0 : decide ((0 : Int) < (([a, b] : List (List Int)).length : Int)) = true := rfl
  have c1 : decide ((1 : Int) < (([a, b] : List (List Int)).length : Int)) = true := rfl
  have c2 : decide ((2 : Int) < (([a, b] : List (List Int)).length : Int)) = false := rfl
  have s1 : qi (0 + (a.length : Int)) = (a.length : Int) := by rw [qs (by omega) (by omega)]; omega
  have s2 : qi ((a.length : Int) + (b.length : Int)) = ((a.length + b.length : Nat) : Int) := by rw [qs (by omega) (by omega)]; omega
  unfold qS.m
  simp only [qS.l1, c0, c1, c2, cond_true, cond_false, i0, i1, qf, r0, r1, s1, s2, qF, w1, w2]
  rw [qq, if_neg (by omega), qq, if_neg (by omega)]
  unfold qS.j2
  rw [Gu _ _ (by omega), qN.bind_ok]
  simp only [qS.l3, c0, c1, c2, cond_true, cond_false, i0, i1, qf, r0, r1, qF, w1, w2]
  rw [zg (by simp only [List.length_nil]; omega), qf, zg (by simp only [List.nil_append]; omega), qf]
  simp
theorem BK (K : Nat) (a b : List PK) (hK : 3 ≤ K) (h : a.length + b.length < 1099511627776) : qt.m K [a, b] = .ok (a ++ b) := by
  obtain ⟨k, rfl⟩ : ∃ m, K = m + 3 := ⟨K - 3, by omega⟩
  have i0 : inb (0 : Int) ([a, b] : List (List PK)).length = true := rfl
  have i1 : inb (1 : Int) ([a, b] : List (List PK)).length = true := rfl
  have r0 : rd [a, b] (0 : Int) = a := rfl
  have r1 : rd [a, b] (1 : Int) = b := rfl
  have w1 : qi ((0 : Int) + 1) = 1 := rfl
  have w2 : qi ((1 : Int) + 1) = 2 := rfl
  have c0 : decide ((0 : Int) < (([a, b] : List (List PK)).length : Int)) = true := rfl
  have c1 : decide ((1 : Int) < (([a, b] : List (List PK)).length : Int)) = true := rfl
  have c2 : decide ((2 : Int) < (([a, b] : List (List PK)).length : Int)) = false := rfl
  have s1 : qi (0 + (a.length : Int)) = (a.length : Int) := by rw [qs (by omega) (by omega)]; omega
  have s2 : qi ((a.length : Int) + (b.length : Int)) = ((a.length + b.length : Nat) : Int) := by rw [qs (by omega) (by omega)]; omega
  unfold qt.m
  simp only [qt.l1, c0, c1, c2, cond_true, cond_false, i0, i1, qf, r0, r1, s1, s2, qF, w1, w2]
  rw [qq, if_neg (by omega), qq, if_neg (by omega)]
  unfold qt.j2
  rw [Gv _ _ (by omega), qN.bind_ok]
  simp only [qt.l3, c0, c1, c2, cond_true, cond_false, i0, i1, qf, r0, r1, qF, w1, w2]
  rw [zg (by simp only [List.length_nil]; omega), qf, zg (by simp only [List.nil_append]; omega), qf]
  simp
def prs : List PK → List PK
  | x :: y :: r => ⟨x.often_ + y.often_, x.symbols_ ++ y.symbols_⟩ :: prs r
  | _ => []
theorem u0 : ∀ l : List PK, (prs l).length = l.length / 2
  | [] => rfl
  | [_] => by simp [prs]
  | x :: y :: r => by simp only [prs, List.length_cons, u0 r]; omega
theorem YD (K : Nat) (hK : 3 ≤ K) (N : Nat) (hN : N < 1073741824) : ∀ (R D O : List PK) (k : Nat), (D ++ R).length = N → 2 * O.length ≤ D.length → R.length < 2 * k → (∀ p ∈ R, 0 ≤ p.often_ ∧ p.often_ < 4611686018427387904 ∧ p.symbols_.length < 1073741824) →
    x4.l1 K (D ++ R) k O (D.length : Int) = .ok (O ++ prs R)
  | [], D, O, k, h1, h3, h2, hb => by
    obtain ⟨k, rfl⟩ : ∃ m, k = m + 1 := ⟨k - 1, by simp at h2; omega⟩
    simp only [List.length_append, List.length_nil] at h1
    rw [x4.l1, qs (by omega) (by omega), qq, if_neg (by simp only [List.append_nil]; omega)]
    simp [prs]
  | [x], D, O, k, h1, h3, h2, hb => by
    obtain ⟨k, rfl⟩ : ∃ m, k = m + 1 := ⟨k - 1, by simp at h2; omega⟩
    simp only [List.length_append, List.length_cons, List.length_nil] at h1
    rw [x4.l1, qs (by omega) (by omega), qq, if_neg (by simp only [List.length_append, List.length_cons, List.length_nil]; omega)]
    simp [prs]
  | x :: y :: R, D, O, k, h1, h3, h2, hb => by
    obtain ⟨k, rfl⟩ : ∃ m, k = m + 1 := ⟨k - 1, by simp at h2; omega⟩
    have h1' := h1
    simp only [List.length_append, List.length_cons] at h1 h2
    have hx := hb x (by simp)
    have hy := hb y (by simp)
    have e1 : qi ((D.length : Int) + 1) = ((D ++ [x]).length : Int) := by rw [qs (by omega) (by omega)]; simp
    have d1 : D ++ x :: y :: R = (D ++ [x]) ++ y :: R := by simp
    have ry : rd (D ++ x :: y :: R) ((D ++ [x]).length : Int) = y := by rw [d1]; exact yY _ _ _ rfl
    have by_ : inb ((D ++ [x]).length : Int) (D ++ x :: y :: R).length = true := by rw [d1]; exact y9 _ _ _ rfl
    rw [x4.l1, e1, qq, if_pos (by simp only [List.length_append, List.length_cons, List.length_nil]; omega), y9 _ _ _ rfl, qf, by_, qf, yY _ _ _ rfl, ry, BJ K _ _ hK (by omega), qN.bind_ok,
      zg (by simp only [List.length_cons, List.length_nil]; omega), qf, qF, qs (x := x.often_ + y.often_) (by omega) (by omega), qF,
      show qi ((D.length : Int) + 2) = ((D ++ [x, y]).length : Int) from by rw [qs (by omega) (by omega)]; simp]
    have := YD K hK N hN R (D ++ [x, y]) (O ++ [⟨x.often_ + y.often_, x.symbols_ ++ y.symbols_⟩]) k (by simp only [List.length_append, List.length_cons, List.length_nil]; omega)
      (by simp only [List.length_append, List.length_cons, List.length_nil]; omega) (by omega) (fun p hp => hb p (by simp [hp]))
    rw [show D ++ x :: y :: R = D ++ [x, y] ++ R from by simp, this]
    simp [prs]
theorem UW (K : Nat) (R : List PK) (hK : 3 ≤ K) (hl : R.length < 1073741824) (hl2 : R.length < 2 * K) (hb : ∀ p ∈ R, 0 ≤ p.often_ ∧ p.often_ < 4611686018427387904 ∧ p.symbols_.length < 1073741824) : x4.m K R = .ok (prs R) := by
  have := YD K hK R.length hl R [] [] K (by simp) (by simp) hl2 hb
  simpa [x4.m] using this
theorem VD (K : Nat) (a b : List PK) (hK : 3 ≤ K) (hK2 : (1099511627776 : Nat) > K) (hl : a.length + b.length + 1 < K) (hl2 : a.length + b.length < 137438953472) : ∃ R, SS (a ++ b) R ∧ yK.m K a b = .ok R := by
  obtain ⟨R, h1, h2⟩ := X5 K (a ++ b) hK2 (by simp only [List.length_append]; omega) (by simp only [List.length_append]; omega)
  refine ⟨R, h1, ?_⟩
  unfold yK.m
  rw [BK K a b hK (by omega), qN.bind_ok, Bu, h2]
  rfl
theorem Up : ∀ {l : List PK}, jD l → jD (prs l)
  | [], _ => List.Pairwise.nil
  | [_], _ => by simp [prs, jD]
  | x :: y :: r, h => by
    have h1 := List.pairwise_cons.1 h
    have h2 := List.pairwise_cons.1 h1.2
    refine List.pairwise_cons.2 ⟨fun p hp => ?_, Up (l := r) h2.2⟩
    have : ∀ {r : List PK}, ∀ p ∈ prs r, ∃ u ∈ r, ∃ v ∈ r, p.often_ = u.often_ + v.often_ := by
      intro r
      induction r using prs.induct with
      | case1 u v r ih =>
        intro p hp
        simp only [prs, List.mem_cons] at hp
        rcases hp with rfl | hp
        · exact ⟨u, by simp, v, by simp, rfl⟩
        · obtain ⟨a, ha, b, hb, h⟩ := ih p hp
          exact ⟨a, by simp [ha], b, by simp [hb], h⟩
      | case2 r hr =>
        intro p hp
        unfold prs at hp
        split at hp
        · rename_i a b c; exact (hr a b c rfl).elim
        · cases hp
    obtain ⟨u, hu, v, hv, he⟩ := this p hp
    have g1 := h1.1 u (by simp [hu])
    have g2 := h2.1 v hv
    show x.often_ + y.often_ ≤ p.often_
    omega
theorem X6 : ∀ {a b : List PK}, jD a → jD b → (∀ k : Int, a.filter (fun x => x.often_ == k) = b.filter (fun x => x.often_ == k)) → a = b
  | [], [], _, _, _ => rfl
  | [], y :: b, _, _, h => by have := h y.often_; simp at this
  | x :: a, [], _, _, h => by have := h x.often_; simp at this
  | x :: a, y :: b, ha, hb, h => by
    have hx := List.pairwise_cons.1 ha
    have hy := List.pairwise_cons.1 hb
    have hle : ∀ {x y : PK} {a b : List PK}, (∀ z ∈ a, x.often_ ≤ z.often_) → (x :: a).filter (fun z => z.often_ == y.often_) = (y :: b).filter (fun z => z.often_ == y.often_) → x.often_ ≤ y.often_ := by
      intro x y a b hx h
      have hm : y ∈ (x :: a).filter (fun z => z.often_ == y.often_) := by rw [h]; simp
      rw [List.mem_filter] at hm
      rcases List.mem_cons.1 hm.1 with h1 | h1
      · rw [h1]; exact Int.le_refl _
      · exact hx y h1
    have e : x.often_ = y.often_ := Int.le_antisymm (hle hx.1 (h y.often_)) (hle hy.1 (h x.often_).symm)
    have h0 := h x.often_
    simp only [List.filter_cons, beq_self_eq_true, if_true, ← e] at h0
    simp only [List.cons.injEq] at h0
    rw [h0.1, X6 hx.2 hy.2 fun k => ?_]
    have hk := h k
    simp only [List.filter_cons, e] at hk
    by_cases hkk : (y.often_ == k) = true
    · simp only [hkk, if_true, List.cons.injEq] at hk; exact hk.2
    · simp only [hkk] at hk; simpa using hk
theorem uj {α : Type} (p q : α → Bool) (l : List α) : (l.filter p).filter q = (l.filter q).filter p := by
  simp only [List.filter_filter]
  congr 1; funext x; rw [Bool.and_comm]
theorem SS.kind {a b R : List PK} (h : SS (a ++ b) R) (p : PK → Bool) (ha : jD a) (h1 : ∀ x ∈ a, p x = true) (h2 : ∀ x ∈ b, p x = false) : R.filter p = a := by
  refine X6 (h.1.sublist (List.filter_sublist)) ha fun k => ?_
  have e : b.filter p = [] := List.filter_eq_nil_iff.2 (fun x hx => by simp [h2 x hx])
  rw [uj, h.2.2 k, uj, List.filter_append, List.filter_eq_self.2 h1, e, List.append_nil]
theorem SS.kind2 {a b R : List PK} (h : SS (a ++ b) R) (p : PK → Bool) (hb : jD b) (h1 : ∀ x ∈ a, p x = false) (h2 : ∀ x ∈ b, p x = true) : R.filter p = b := by
  refine X6 (h.1.sublist (List.filter_sublist)) hb fun k => ?_
  have e : a.filter p = [] := List.filter_eq_nil_iff.2 (fun x hx => by simp [h1 x hx])
  rw [uj, h.2.2 k, uj, List.filter_append, List.filter_eq_self.2 h2, e, List.nil_append]
end Go.Pu

set_option maxRecDepth 100000
namespace Go.Pu
open Go Go.Sl Go.Mo
def yL (p : PK) : Bool := p.symbols_.length == 1
def xt (l : List PK) : List Int := l.flatMap (·.symbols_)
structure Rows (X : List PK) (R : Nat → List PK) : Prop where
  zero : R 0 = X
  succ : ∀ t, SS (X ++ prs (R t)) (R (t + 1))
  one : ∀ p ∈ X, p.symbols_.length = 1
  pos : ∀ p ∈ X, 0 < p.often_
  srt : jD X
theorem Jf : ∀ {r : List PK} {p : PK}, p ∈ prs r → ∃ u ∈ r, ∃ v ∈ r, p.often_ = u.often_ + v.often_ ∧ p.symbols_ = u.symbols_ ++ v.symbols_ := by
  intro r
  induction r using prs.induct with
  | case1 u v r ih =>
    intro p hp
    simp only [prs, List.mem_cons] at hp
    rcases hp with rfl | hp
    · exact ⟨u, by simp, v, by simp, rfl, rfl⟩
    · obtain ⟨a, ha, b, hb, h⟩ := ih hp
      exact ⟨a, by simp [ha], b, by simp [hb], h⟩
  | case2 r hr =>
    intro p hp
    unfold prs at hp
    split at hp
    · rename_i a b c; exact (hr a b c rfl).elim
    · cases hp
theorem Uo : ∀ {T : List PK} (U : List PK), T.length % 2 = 0 → prs (T ++ U) = prs T ++ prs U
  | [], U, _ => by simp [prs]
  | [x], U, h => by simp at h
  | x :: y :: T, U, h => by
    simp only [List.cons_append, prs]
    rw [Uo U (by simp only [List.length_cons] at h; omega)]
theorem XQ (l : List PK) (b : Nat) : (prs l).take b = prs (l.take (2 * b)) := by
  induction l using prs.induct generalizing b with
  | case1 u v r ih =>
    cases b with
    | zero => simp [prs]
    | succ b => rw [show 2 * (b + 1) = 2 * b + 1 + 1 from by omega]; simp only [prs, List.take_succ_cons, ih]
  | case2 r hr =>
    have h1 : prs r = [] := by
      unfold prs
      split
      · rename_i a b c; exact (hr a b c rfl).elim
      · rfl
    have h2 : prs (r.take (2 * b)) = [] := by
      have := u0 (r.take (2 * b))
      have h3 := u0 r
      rw [h1] at h3
      simp only [List.length_nil] at h3
      have h4 : (r.take (2 * b)).length ≤ r.length := (List.take_sublist _ _).length_le
      exact List.length_eq_zero_iff.1 (by omega)
    rw [h1, h2]; simp
theorem ZO : ∀ {l : List PK}, l.length % 2 = 0 → xt (prs l) = xt l
  | [], _ => rfl
  | [x], h => by simp at h
  | x :: y :: r, h => by
    have := ZO (l := r) (by simp only [List.length_cons] at h; omega)
    simp only [xt] at this
    simp only [xt, prs, List.flatMap_cons, this, List.append_assoc]
section
variable {X : List PK} {R : Nat → List PK} (H : Rows X R)
include H
theorem Rows.sorted : ∀ t, jD (R t)
  | 0 => by rw [H.zero]; exact H.srt
  | t + 1 => (H.succ t).1
theorem Rows.good : ∀ t, ∀ p ∈ R t, 0 < p.often_ ∧ 1 ≤ p.symbols_.length
  | 0, p, hp => by rw [H.zero] at hp; exact ⟨H.pos p hp, by rw [H.one p hp]; exact Nat.le_refl _⟩
  | t + 1, p, hp => by
    rcases List.mem_append.1 ((H.succ t).2.1.mem_iff.1 hp) with h | h
    · exact ⟨H.pos p h, by rw [H.one p h]; exact Nat.le_refl _⟩
    · obtain ⟨u, hu, v, hv, h1, h2⟩ := Jf h
      have := Rows.good t u hu
      have := Rows.good t v hv
      exact ⟨by omega, by rw [h2, List.length_append]; omega⟩
theorem Rows.two (t : Nat) : ∀ p ∈ prs (R t), yL p = false := by
  intro p hp
  obtain ⟨u, hu, v, hv, _, h2⟩ := Jf hp
  have := (H.good t u hu).2
  have := (H.good t v hv).2
  simp only [yL, h2, List.length_append, beq_eq_false_iff_ne]; omega
theorem Rows.ones : ∀ p ∈ X, yL p = true := fun p hp => by simp [yL, H.one p hp]
theorem Rows.singles (t : Nat) : (R (t + 1)).filter yL = X := (H.succ t).kind yL H.srt H.ones (H.two t)
theorem Rows.pairs (t : Nat) : (R (t + 1)).filter (fun p => !yL p) = prs (R t) :=
  (H.succ t).kind2 (fun p => !yL p) (Up (H.sorted t)) (fun p hp => by simp [H.ones p hp]) (fun p hp => by simp [H.two t p hp])
theorem Rows.len (t : Nat) : (R (t + 1)).length = X.length + (R t).length / 2 := by
  rw [(H.succ t).2.1.length_eq, List.length_append, u0]
end
theorem QB {α : Type} (p : α → Bool) (l : List α) (m : Nat) : (l.take m).filter p = (l.filter p).take ((l.take m).filter p).length ∧ (l.drop m).filter p = (l.filter p).drop ((l.take m).filter p).length := by
  have h : l.filter p = (l.take m).filter p ++ (l.drop m).filter p := by rw [← List.filter_append, List.take_append_drop]
  constructor
  · conv => rhs; rw [h]
    simp
  · conv => rhs; rw [h]
    simp
def Vz (R : Nat → List PK) (t m : Nat) : Nat := (((R t).take m).filter yL).length
def uY (R : Nat → List PK) (t m : Nat) : Nat := (((R t).take m).filter fun p => !yL p).length
def Y8 (R : Nat → List PK) : Nat → Nat → List Nat
  | 0, m => [m]
  | t + 1, m => Vz R (t + 1) m :: Y8 R t (2 * uY R (t + 1) m)
theorem Xb (R : Nat → List PK) : ∀ t m, (Y8 R t m).length = t + 1
  | 0, _ => rfl
  | t + 1, m => by simp [Y8, Xb R t]
theorem Vr {α : Type} (p : α → Bool) (l : List α) : (l.filter p).length + (l.filter fun x => !p x).length = l.length := by
  have := (List.filter_append_perm p l).length_eq
  simpa using this
theorem GC (R : Nat → List PK) (t m : Nat) (h : m ≤ (R t).length) : Vz R t m + uY R t m = m := by
  have := Vr yL ((R t).take m)
  rw [List.length_take, Nat.min_eq_left h] at this
  exact this
section
variable {X : List PK} {R : Nat → List PK} (H : Rows X R)
include H
theorem Rows.takeOne (t m : Nat) : ((R (t + 1)).take m).filter yL = X.take (Vz R (t + 1) m) := by
  have := (QB yL (R (t + 1)) m).1
  rw [H.singles t] at this
  exact this
theorem Rows.takeTwo (t m : Nat) : ((R (t + 1)).take m).filter (fun p => !yL p) = (prs (R t)).take (uY R (t + 1) m) := by
  have := (QB (fun p => !yL p) (R (t + 1)) m).1
  rw [H.pairs t] at this
  exact this
theorem Rows.twoLe (t m : Nat) : 2 * uY R (t + 1) m ≤ (R t).length := by
  have h := congrArg List.length (H.pairs t)
  have h2 : uY R (t + 1) m ≤ ((R (t + 1)).filter fun p => !yL p).length := by
    have := (List.take_sublist m (R (t + 1))).filter (fun p => !yL p)
    exact this.length_le
  rw [h, u0] at h2
  omega
theorem Rows.oneLe (t m : Nat) : Vz R (t + 1) m ≤ X.length := by
  have h := congrArg List.length (H.singles t)
  have := ((List.take_sublist m (R (t + 1))).filter yL).length_le
  rw [h] at this
  exact this
theorem Rows.count (s : Int) : ∀ t m, m ≤ (R t).length → (xt ((R t).take m)).count s = ((Y8 R t m).map fun a => (xt (X.take a)).count s).sum
  | 0, m, h => by simp [Y8, H.zero]
  | t + 1, m, h => by
    have hp := (List.filter_append_perm yL ((R (t + 1)).take m)).flatMap_right (·.symbols_)
    have h1 := hp.count_eq s
    rw [List.flatMap_append, List.count_append, H.takeOne, H.takeTwo, XQ] at h1
    have h2 := H.twoLe t m
    have h3 : ((R t).take (2 * uY R (t + 1) m)).length = 2 * uY R (t + 1) m := by rw [List.length_take, Nat.min_eq_left h2]
    have h4 := ZO (l := (R t).take (2 * uY R (t + 1) m)) (by rw [h3]; omega)
    have h5 := Rows.count s t (2 * uY R (t + 1) m) h2
    simp only [xt] at h4 h5 ⊢
    rw [← h1, h4, h5]
    simp [Y8]
theorem Rows.mono (t m : Nat) : ∀ a, (Y8 R t (2 * uY R (t + 1) m)).head? = some a → a ≤ Vz R (t + 1) m := by
  intro a ha
  obtain ⟨b, hb⟩ : ∃ b, uY R (t + 1) m = b := ⟨_, rfl⟩
  have hbl := H.twoLe t m
  have hTwo := H.takeTwo t m
  have hOne := H.takeOne t m
  rw [hb] at ha hbl hTwo
  -- the single ones among the first 2b
  have hal : ((R t).take (2 * b)).filter yL = X.take a ∧ a ≤ X.length := by
    cases t with
    | zero =>
      simp only [Y8, List.head?_cons, Option.some.injEq] at ha
      subst ha
      rw [H.zero] at hbl ⊢
      exact ⟨List.filter_eq_self.2 fun p hp => H.ones p (List.mem_of_mem_take hp), hbl⟩
    | succ t =>
      simp only [Y8, List.head?_cons, Option.some.injEq] at ha
      subst ha
      exact ⟨H.takeOne t (2 * b), H.oneLe t (2 * b)⟩
  refine Nat.le_of_not_lt fun hlt => ?_
  obtain ⟨c, hc⟩ : ∃ c, Vz R (t + 1) m = c := ⟨_, rfl⟩
  rw [hc] at hlt hOne
  have hcx : c < X.length := by omega
  -- the first 2b: the last two
  have hb0 : 0 < b := by
    refine Nat.pos_of_ne_zero fun h0 => ?_
    subst h0
    have := congrArg List.length hal.1
    simp at this; omega
  obtain ⟨T, u, v, hT, hTl⟩ : ∃ T u v, (R t).take (2 * b) = T ++ [u, v] ∧ T.length = 2 * (b - 1) := by
    have hl : ((R t).take (2 * b)).length = 2 * b := by rw [List.length_take, Nat.min_eq_left hbl]
    rcases uN ((R t).take (2 * b)) with h | ⟨T1, v, h⟩
    · rw [h] at hl; simp at hl; omega
    · rcases uN T1 with h' | ⟨T, u, h'⟩
      · rw [h, h'] at hl; simp at hl; omega
      · refine ⟨T, u, v, by rw [h, h']; simp, ?_⟩
        rw [h, h'] at hl; simp only [List.length_append, List.length_cons, List.length_nil] at hl; omega
  have hq : (⟨u.often_ + v.often_, u.symbols_ ++ v.symbols_⟩ : PK) ∈ (R (t + 1)).take m := by
    have : (⟨u.often_ + v.often_, u.symbols_ ++ v.symbols_⟩ : PK) ∈ ((R (t + 1)).take m).filter (fun p => !yL p) := by
      rw [hTwo, XQ, hT, Uo _ (by omega)]
      simp [prs]
    exact (List.mem_filter.1 this).1
  have hx : X[c] ∈ (R (t + 1)).drop m := by
    have h1 := (QB yL (R (t + 1)) m).2
    rw [H.singles t, show (((R (t + 1)).take m).filter yL).length = c from hc] at h1
    have : X[c] ∈ ((R (t + 1)).drop m).filter yL := by
      rw [h1, List.drop_eq_getElem_cons hcx]; exact List.mem_cons_self ..
    exact (List.mem_filter.1 this).1
  have hs := H.sorted (t + 1)
  rw [← List.take_append_drop m (R (t + 1))] at hs
  have g1 := hs.cross _ hq _ hx
  have hx2 : X[c] ∈ T ++ [u, v] := by
    rw [← hT]
    have : X[c] ∈ ((R t).take (2 * b)).filter yL := by
      rw [hal.1, List.mem_take_iff_getElem]
      exact ⟨c, by omega, rfl⟩
    exact (List.mem_filter.1 this).1
  have hs2 := (H.sorted t).sublist (List.take_sublist (2 * b) (R t))
  rw [hT] at hs2
  have hu : 0 < u.often_ := (H.good t u (List.mem_of_mem_take (by rw [hT]; simp : u ∈ (R t).take (2 * b)))).1
  have g2 : X[c].often_ ≤ v.often_ := by
    rcases List.mem_append.1 hx2 with h | h
    · exact jD.cross (show jD (T ++ [u, v]) from hs2) _ h v (by simp)
    · simp at h
      rcases h with h | h
      · rw [h]; exact jD.cross (A := [u]) (B := [v]) (jD.right (A := T) hs2) u (by simp) v (by simp)
      · rw [h]; exact Int.le_refl _
  simp only at g1
  omega
theorem Rows.levle : ∀ t m, m ≤ (R t).length → ∀ a ∈ Y8 R t m, a ≤ X.length
  | 0, m, h, a, ha => by simp [Y8] at ha; subst ha; rw [H.zero] at h; exact h
  | t + 1, m, h, a, ha => by
    rcases List.mem_cons.1 ha with rfl | ha
    · exact H.oneLe t m
    · exact Rows.levle t _ (H.twoLe t m) a ha
theorem Rows.down : ∀ t m, (Y8 R t m).Pairwise (fun a b => b ≤ a)
  | 0, m => by simp [Y8]
  | t + 1, m => by
    have ih := Rows.down t (2 * uY R (t + 1) m)
    refine List.pairwise_cons.2 ⟨fun b hb => ?_, ih⟩
    have hm := H.mono t m
    cases hl : Y8 R t (2 * uY R (t + 1) m) with
    | nil => rw [hl] at hb; cases hb
    | cons c r =>
      rw [hl] at hb ih hm
      have hc := hm c rfl
      rcases List.mem_cons.1 hb with rfl | hb
      · exact hc
      · exact Nat.le_trans ((List.pairwise_cons.1 ih).1 b hb) hc
end
def VU : List Nat → Nat
  | [] => 0
  | a :: r => a * 2 ^ r.length + VU r
theorem JO {X : List PK} {R : Nat → List PK} (H : Rows X R) : ∀ t m, m ≤ (R t).length → VU (Y8 R t m) = m * 2 ^ t
  | 0, m, _ => by simp [Y8, VU]
  | t + 1, m, h => by
    simp only [Y8, VU, Xb, JO H t _ (H.twoLe t m)]
    have := GC R (t + 1) m h
    conv => rhs; rw [← this]
    rw [Nat.pow_succ, Nat.add_mul]
    have : 2 * uY R (t + 1) m * 2 ^ t = uY R (t + 1) m * (2 ^ t * 2) := by rw [Nat.mul_comm (2 ^ t) 2, ← Nat.mul_assoc, Nat.mul_comm 2]
    omega
def ux (as : List Nat) (i : Nat) : Nat := (as.filter fun a => decide (i < a)).length
theorem DW (as : List Nat) (i : Nat) : ux as i ≤ as.length := List.length_filter_le ..
theorem KH (n : Nat) : ∀ as : List Nat, as.Pairwise (fun a b => b ≤ a) → (∀ a ∈ as, a ≤ n) → ((List.range n).map fun i => 2 ^ (as.length - ux as i)).sum + VU as = n * 2 ^ as.length
  | [], _, _ => by
    have : ∀ m : Nat, ((List.range m).map fun _ => 1).sum = m := by
      intro m
      induction m with
      | zero => rfl
      | succ m ih => rw [List.range_succ, List.map_append, List.sum_append, ih]; simp
    have h2 := this n
    simp only [ux, VU, List.filter_nil, List.length_nil, Nat.sub_self, Nat.pow_zero, Nat.add_zero, Nat.mul_one]
    exact h2
  | a :: r, hp, hn => by
    have hp' := List.pairwise_cons.1 hp
    have ih := KH n r hp'.2 (fun b hb => hn b (by simp [hb]))
    have ha := hn a (by simp)
    have step : ((List.range n).map fun i => 2 ^ ((a :: r).length - ux (a :: r) i)).sum = ((List.range n).map fun i => 2 ^ (r.length - ux r i)).sum + (n - a) * 2 ^ r.length := by
      have hterm : ∀ i, 2 ^ ((a :: r).length - ux (a :: r) i) = 2 ^ (r.length - ux r i) + (if i < a then 0 else 2 ^ r.length) := by
        intro i
        by_cases h : i < a
        · rw [if_pos h, Nat.add_zero]
          congr 1
          have : ux (a :: r) i = ux r i + 1 := by simp [ux, h]
          rw [this, List.length_cons]; omega
        · rw [if_neg h]
          have h0 : ux r i = 0 := by
            unfold ux
            rw [List.length_eq_zero_iff, List.filter_eq_nil_iff]
            intro b hb
            have := hp'.1 b hb
            simp; omega
          have h1 : ux (a :: r) i = 0 := by simp [ux, h]; intro b hb; have := hp'.1 b hb; omega
          rw [h0, h1, List.length_cons, Nat.sub_zero, Nat.sub_zero, Nat.pow_succ]; omega
      have hsum : ∀ m, m ≤ n → ((List.range m).map fun i => 2 ^ ((a :: r).length - ux (a :: r) i)).sum = ((List.range m).map fun i => 2 ^ (r.length - ux r i)).sum + (m - a) * 2 ^ r.length := by
        intro m
        induction m with
        | zero => intro _; simp
        | succ m ih =>
          intro hm
          rw [List.range_succ, List.map_append, List.map_append, List.sum_append, List.sum_append, ih (by omega)]
          simp only [List.map_cons, List.map_nil, List.sum_cons, List.sum_nil, Nat.add_zero, hterm m]
          by_cases h : m < a
          · rw [if_pos h, show m + 1 - a = 0 from by omega, show m - a = 0 from by omega]; omega
          · rw [if_neg h, show m + 1 - a = (m - a) + 1 from by omega, Nat.add_mul]; omega
      exact hsum n (Nat.le_refl _)
    rw [step]
    simp only [VU, List.length_cons]
    have : (n - a) * 2 ^ r.length + a * 2 ^ r.length = n * 2 ^ r.length := by rw [← Nat.add_mul]; congr 1; omega
    have e2 : n * 2 ^ (r.length + 1) = n * 2 ^ r.length + n * 2 ^ r.length := by rw [Nat.pow_succ, ← Nat.mul_assoc, Nat.mul_two]
    rw [e2]
    have e3 : n * 2 ^ r.length = n * 2 ^ r.length := rfl
    omega
end Go.Pu

set_option maxRecDepth 100000
namespace Go.Pu
open Go Go.Sl Go.Mo
def uP : List Int → Nat → List PK
  | [], _ => []
  | n :: r, i => if 0 < n then ⟨n, [(i : Int)]⟩ :: uP r (i + 1) else uP r (i + 1)
def UA (n : Int) : Bool := decide (n < 0) || decide (n > 1099511627776)
def GR (often : List Int) (most : Int) : Prop := 1 ≤ most ∧ most ≤ 15 ∧ often.length ≤ 320 ∧ (∀ n ∈ often, 0 ≤ n ∧ n ≤ 1099511627776) ∧ (uP often 0).length ≤ 2 ^ most.toNat
instance (often : List Int) (most : Int) : Decidable (GR often most) := by unfold GR; exact inferInstance
def jX (N : Nat) (D : List Int) : List Int := (List.range N).map fun (j : Nat) => ((D.count (j : Int) : Nat) : Int)
theorem jr (N : Nat) (D : List Int) : (jX N D).length = N := by simp [jX]
theorem Za (N : Nat) : jX N [] = List.replicate N 0 := by
  unfold jX
  apply List.ext_getElem <;> simp
theorem Xf {N : Nat} {D : List Int} {j : Nat} (h : j < N) : rd (jX N D) (j : Int) = ((D.count (j : Int) : Nat) : Int) := by
  simp [rd, jX, List.getD, h]
theorem Ym {N : Nat} {D : List Int} {j : Nat} (h : j < N) : (jX N D).set j (((D.count (j : Int) + 1 : Nat)) : Int) = jX N (D ++ [(j : Int)]) := by
  unfold jX
  apply List.ext_getElem
  · simp
  · intro i h1 h2
    simp only [List.length_set, List.length_map, List.length_range] at h1
    rw [List.getElem_set]
    by_cases hij : j = i
    · subst hij; simp
    · rw [if_neg hij]
      have : ¬ ((j : Int) = (i : Int)) := by omega
      simp [List.count_append, List.count_cons, this]
theorem GA (K : Nat) (g : List Int → Int → qN (List Int × Int)) (zs : List PK) (v N : Nat) (hv : v < 1099511627776) (D : List Int) : ∀ (k : Nat) (S T : List Int), (rd zs (v : Int)).symbols_ = S ++ T → T.length < k → (S ++ T).length < 1099511627776 → (D ++ S ++ T).length < 1099511627776 → (∀ s ∈ T, ∃ j : Nat, j < N ∧ s = (j : Int)) →
    qD.l8 K g zs (v : Int) k (jX N (D ++ S)) (S.length : Int) = g (jX N (D ++ S ++ T)) ((v + 1 : Nat) : Int) := by
  intro k
  induction k with
  | zero => intro S T _ h; omega
  | succ k ih =>
    intro S T h1 h2 h3 h5 h4
    rw [qD.l8, h1, qq]
    cases T with
    | nil => rw [if_neg (by simp), qs (by omega) (by omega)]; simp
    | cons s T =>
      obtain ⟨j, hj, rfl⟩ := h4 s (by simp)
      have hc : (D ++ S).count (j : Int) ≤ (D ++ S).length := List.count_le_length
      simp only [List.length_append, List.length_cons] at h2 h3 h5 hc
      rw [if_pos (by simp only [List.length_append, List.length_cons]; omega), y9 _ _ _ rfl, qf, yY _ _ _ rfl, qF, jr, Yg hj, qf, Xf hj, qs (by omega) (by omega), Int.toNat_natCast, qF,
        show ((((D ++ S).count (j : Int) : Nat) : Int) + 1) = (((D ++ S).count (j : Int) + 1 : Nat) : Int) from rfl, Ym hj, show qi ((S.length : Int) + 1) = ((S ++ [(j : Int)]).length : Int) from by rw [qs (by omega) (by omega)]; simp]
      have := ih (S ++ [(j : Int)]) T (by rw [h1]; simp) (by omega) (by simp only [List.length_append, List.length_cons, List.length_nil]; omega) (by simp only [List.length_append, List.length_cons, List.length_nil]; omega) (fun s hs => h4 s (by simp [hs]))
      simp only [← List.append_assoc] at this
      rw [this]
      simp
theorem Gz (K : Nat) (N M : Nat) (hM : M < 1099511627776) (hMK : M < K) : ∀ (k : Nat) (A B : List PK), B.length < k → (A ++ B).length < 1099511627776 → (xt (A ++ B)).length ≤ M → (∀ s ∈ xt B, ∃ j : Nat, j < N ∧ s = (j : Int)) →
    qD.l7 K (A ++ B) k (jX N (xt A)) (A.length : Int) = .ok (jX N (xt (A ++ B)), 0) := by
  intro k
  induction k with
  | zero => intro A B h; omega
  | succ k ih =>
    intro A B h1 h2 h3 h4
    rw [qD.l7, qq]
    cases B with
    | nil => rw [if_neg (by simp)]; simp
    | cons p B =>
      have h3' := h3
      simp only [List.length_append, List.length_cons] at h1 h2
      simp only [xt, List.flatMap_append, List.flatMap_cons, List.length_append] at h3
      have hp := GA K (qD.l7 K (A ++ p :: B) k) (A ++ p :: B) A.length N (by omega) (xt A) K [] p.symbols_ (by rw [yY _ _ _ rfl]; rfl) (by omega) (by simp only [List.nil_append]; omega) (by simp only [List.append_nil, List.length_append, xt]; omega)
        (fun s hs => h4 s (by simp only [xt, List.flatMap_cons, List.mem_append]; exact .inl hs))
      simp only [List.append_nil, List.length_nil] at hp
      rw [if_pos (by simp only [List.length_append, List.length_cons]; omega), y9 _ _ _ rfl, qf]
      rw [show ((0 : Nat) : Int) = 0 from rfl] at hp
      rw [hp]
      have := ih (A ++ [p]) B (by omega) (by simp only [List.length_append, List.length_cons, List.length_nil]; omega) (by rw [List.append_assoc]; exact h3') (fun s hs => h4 s (by simp only [xt, List.flatMap_cons, List.mem_append] at hs ⊢; exact .inr hs))
      rw [show xt A ++ p.symbols_ = xt (A ++ [p]) from by simp [xt], show ((A.length + 1 : Nat) : Int) = ((A ++ [p]).length : Int) from by simp, show A ++ p :: B = A ++ [p] ++ B from by simp, this]
theorem Xi : ∀ (l : List Int) (i : Nat), (uP l i).length ≤ l.length
  | [], _ => Nat.le_refl _
  | n :: r, i => by
    unfold uP
    have := Xi r (i + 1)
    split <;> simp <;> omega
theorem Gx (K : Nat) (often : List Int) (most : Int) (hl : often.length ≤ 320) : ∀ (k : Nat) (D T : List Int) (O : List PK), D ++ T = often → T.length < k → O.length ≤ D.length →
    qD.l2 K often most k O (D.length : Int) = qD.j3 K often most (O ++ uP T D.length) := by
  intro k
  induction k with
  | zero => intro D T O _ h; omega
  | succ k ih =>
    intro D T O h1 h2 h3
    have hlen : D.length + T.length = often.length := by rw [← h1]; simp
    rw [qD.l2, qq]
    cases T with
    | nil => rw [if_neg (by simp only [List.length_nil] at hlen; omega)]; simp [uP]
    | cons n T =>
      simp only [List.length_cons] at h2 hlen
      have hn : qi ((D.length : Int) + 1) = ((D ++ [n]).length : Int) := by rw [qs (by omega) (by omega)]; simp
      rw [if_pos (by omega), Yg (by omega), qf, show rd often (D.length : Int) = n from by rw [← h1]; exact yY _ _ _ rfl, qF, qq, hn]
      by_cases h0 : n > 0
      · rw [if_pos h0, zg (by simp only [List.length_cons, List.length_nil]; omega), qf, qF]
        have := ih (D ++ [n]) T (O ++ [⟨n, [(D.length : Int)]⟩]) (by rw [← h1]; simp) (by omega) (by simp; exact h3)
        rw [this]
        simp only [uP, List.length_append, List.length_cons, List.length_nil]
        rw [if_pos (by omega)]
        simp
      · rw [if_neg h0, ih (D ++ [n]) T O (by rw [← h1]; simp) (by omega) (by simp; omega)]
        simp only [uP, List.length_append, List.length_cons, List.length_nil]
        rw [if_neg (by omega)]
theorem Jv (K : Nat) (often : List Int) (hl : often.length ≤ 320) : ∀ (k : Nat) (D T : List Int), D ++ T = often → T.length < k →
    (zG.l1 K often k (D.length : Int)).bind (fun x => lt (decide (x ≥ (0 : Int))) fun v => .ok v) = .ok (T.any UA) := by
  intro k
  induction k with
  | zero => intro D T _ h; omega
  | succ k ih =>
    intro D T h1 h2
    have hlen : D.length + T.length = often.length := by rw [← h1]; simp
    rw [zG.l1, qq]
    cases T with
    | nil => rw [if_neg (by simp only [List.length_nil] at hlen; omega)]; rfl
    | cons n T =>
      simp only [List.length_cons] at h2 hlen
      rw [if_pos (by omega), Yg (by omega), qf, show rd often (D.length : Int) = n from by rw [← h1]; exact yY _ _ _ rfl]
      unfold jF.m
      rw [qF, qN.bind_ok, List.any_cons]
      cases hb : UA n with
      | true =>
        rw [show (decide (n < 0) || decide (n > 1099511627776)) = true from hb, cond_true, qN.bind_ok, qF]
        simp
      | false =>
        rw [show (decide (n < 0) || decide (n > 1099511627776)) = false from hb, cond_false, show qi ((D.length : Int) + 1) = ((D ++ [n]).length : Int) from by rw [qs (by omega) (by omega)]; simp,
          ih (D ++ [n]) T (by rw [← h1]; simp) (by omega)]
        simp
theorem Kh (often : List Int) : often.any UA = false ↔ ∀ n ∈ often, 0 ≤ n ∧ n ≤ 1099511627776 := by
  rw [List.any_eq_false]
  constructor
  · intro h n hn
    have := h n hn
    simp only [UA, Bool.or_eq_true, decide_eq_true_eq] at this
    omega
  · intro h n hn
    have := h n hn
    simp only [UA, Bool.or_eq_true, decide_eq_true_eq]
    omega
theorem GZ {m : Int} (h1 : 1 ≤ m) (h2 : m ≤ 15) : xl .i64 1 m = ((2 ^ m.toNat : Nat) : Int) := by
  obtain ⟨n, rfl⟩ : ∃ n : Nat, m = (n : Int) := ⟨m.toNat, by omega⟩
  have hp : 2 ^ n ≤ 2 ^ 15 := Nat.pow_le_pow_right (by decide) (by omega)
  have := vR (a := 1) (n := n) (by omega) (by omega)
  rw [Int.toNat_natCast]
  rw [show ((1 : Nat) : Int) = 1 from rfl] at this
  rw [this, Nat.one_mul]
end Go.Pu

set_option maxRecDepth 100000
namespace Go.Pu
open Go Go.Sl Go.Mo
def yp (K : Nat) (X : List PK) : Nat → List PK
  | 0 => X
  | t + 1 => match yK.m K X (prs (yp K X t)) with
    | .ok r => r
    | _ => []
theorem XW (K : Nat) (X : List PK) (hX : X.length ≤ 320) (hK : 1000 ≤ K) (hK2 : (1099511627776 : Nat) > K) : ∀ t, (yp K X t).length ≤ 2 * X.length ∧ SS (X ++ prs (yp K X t)) (yp K X (t + 1)) ∧ yK.m K X (prs (yp K X t)) = .ok (yp K X (t + 1)) := by
  have step : ∀ t, (yp K X t).length ≤ 2 * X.length → SS (X ++ prs (yp K X t)) (yp K X (t + 1)) ∧ yK.m K X (prs (yp K X t)) = .ok (yp K X (t + 1)) := by
    intro t ht
    have hp := u0 (yp K X t)
    obtain ⟨R, h1, h2⟩ := VD K X (prs (yp K X t)) (by omega) hK2 (by omega) (by omega)
    have : yp K X (t + 1) = R := by rw [yp, h2]
    rw [this]
    exact ⟨h1, h2⟩
  have len : ∀ t, (yp K X t).length ≤ 2 * X.length := by
    intro t
    induction t with
    | zero => simp only [yp]; omega
    | succ t ih =>
      have := (step t ih).1.2.1.length_eq
      rw [this, List.length_append, u0]; omega
  exact fun t => ⟨len t, step t (len t)⟩
theorem Ut (K : Nat) (X : List PK) (hX : X.length ≤ 320) (hK : 1000 ≤ K) (hK2 : (1099511627776 : Nat) > K) (h1 : ∀ p ∈ X, p.symbols_.length = 1) (h2 : ∀ p ∈ X, 0 < p.often_) (h3 : jD X) : Rows X (yp K X) :=
  ⟨rfl, fun t => (XW K X hX hK hK2 t).2.1, h1, h2, h3⟩
section
variable {X : List PK} {R : Nat → List PK} (H : Rows X R)
include H
theorem Rows.big (hb : ∀ p ∈ X, p.often_ ≤ 1099511627776) : ∀ t, ∀ p ∈ R t, p.often_ ≤ 1099511627776 * 2 ^ t ∧ p.symbols_.length ≤ 2 ^ t
  | 0, p, hp => by rw [H.zero] at hp; exact ⟨by have := hb p hp; simpa using this, by rw [H.one p hp]; exact Nat.le_refl _⟩
  | t + 1, p, hp => by
    have e1 : (2 : Int) ^ (t + 1) = 2 ^ t + 2 ^ t := by rw [Int.pow_succ]; omega
    have e2 : 2 ^ (t + 1) = 2 ^ t + 2 ^ t := by rw [Nat.pow_succ]; omega
    have p1 : (1 : Int) ≤ 2 ^ t := by have : 1 ≤ 2 ^ t := Nat.one_le_two_pow; exact_mod_cast this
    have p2 : 1 ≤ 2 ^ t := Nat.one_le_two_pow
    rcases List.mem_append.1 ((H.succ t).2.1.mem_iff.1 hp) with h | h
    · have := hb p h
      refine ⟨?_, by rw [H.one p h]; omega⟩
      rw [e1]; omega
    · obtain ⟨u, hu, v, hv, h1, h2⟩ := Jf h
      have g1 := Rows.big hb t u hu
      have g2 := Rows.big hb t v hv
      exact ⟨by rw [h1, e1]; omega, by rw [h2, List.length_append]; omega⟩
theorem Rows.lack : ∀ t, (R t).length ≤ 2 * X.length ∧ (2 * X.length - (R t).length) * 2 ^ t + 1 ≤ X.length + 2 ^ t
  | 0 => by rw [H.zero]; simp only [Nat.pow_zero]; omega
  | t + 1 => by
    obtain ⟨h1, h2⟩ := Rows.lack t
    have hl := H.len t
    refine ⟨by omega, ?_⟩
    obtain ⟨r, hr⟩ : ∃ r, 2 * X.length - (R t).length = r := ⟨_, rfl⟩
    have hr2 : 2 * X.length - (R (t + 1)).length = (r + 1) / 2 := by omega
    rw [hr] at h2
    rw [hr2, Nat.pow_succ]
    have : (r + 1) / 2 * (2 ^ t * 2) ≤ (r + 1) * 2 ^ t := by
      rw [Nat.mul_comm (2 ^ t) 2, ← Nat.mul_assoc]
      exact Nat.mul_le_mul_right _ (by omega)
    rw [Nat.add_mul, Nat.one_mul] at this
    omega
theorem Rows.size : ∀ t m, m ≤ (R t).length → (xt ((R t).take m)).length ≤ (t + 1) * X.length
  | 0, m, h => by
    rw [H.zero]
    have : ∀ l : List PK, (∀ p ∈ l, p.symbols_.length = 1) → (xt l).length = l.length := by
      intro l
      induction l with
      | nil => intro _; rfl
      | cons p l ih => intro hh; simp only [xt, List.flatMap_cons, List.length_append, List.length_cons] at ih ⊢; rw [ih (fun q hq => hh q (by simp [hq])), hh p (by simp)]; omega
    rw [this _ (fun p hp => H.one p (List.mem_of_mem_take hp))]
    have := (List.take_sublist m X).length_le
    omega
  | t + 1, m, h => by
    have hp := (List.filter_append_perm yL ((R (t + 1)).take m)).flatMap_right (·.symbols_)
    have h1 := hp.length_eq
    rw [List.flatMap_append, List.length_append, H.takeOne, H.takeTwo, XQ] at h1
    have h2 := H.twoLe t m
    have h3 : ((R t).take (2 * uY R (t + 1) m)).length = 2 * uY R (t + 1) m := by rw [List.length_take, Nat.min_eq_left h2]
    have h4 := ZO (l := (R t).take (2 * uY R (t + 1) m)) (by rw [h3]; omega)
    have h5 := Rows.size t (2 * uY R (t + 1) m) h2
    have h6 : (xt (X.take (Vz R (t + 1) m))).length ≤ X.length := by
      have : ∀ l : List PK, (∀ p ∈ l, p.symbols_.length = 1) → (xt l).length = l.length := by
        intro l
        induction l with
        | nil => intro _; rfl
        | cons p l ih => intro hh; simp only [xt, List.flatMap_cons, List.length_append, List.length_cons] at ih ⊢; rw [ih (fun q hq => hh q (by simp [hq])), hh p (by simp)]; omega
      rw [this _ (fun p hp => H.one p (List.mem_of_mem_take hp))]
      exact (List.take_sublist _ X).length_le
    simp only [xt] at h4 h5 h6 ⊢
    rw [h4] at h1
    rw [Nat.add_mul (t + 1) 1, Nat.one_mul]
    omega
end
theorem Gy (K : Nat) (most : Int) (L : Nat) (hL : most = (L : Int)) (hL1 : 1 ≤ L) (hL2 : L ≤ 15) (out : List Int) (X : List PK) (hX : X.length ≤ 320) (hK : 1000 ≤ K) (hK2 : (1099511627776 : Nat) > K) (h1 : ∀ p ∈ X, p.symbols_.length = 1) (h2 : ∀ p ∈ X, 0 < p.often_) (h3 : jD X) (hb : ∀ p ∈ X, p.often_ ≤ 1099511627776) :
    ∀ (j k t : Nat), t + j = L - 1 → j < k → qD.l5 K most out X k (yp K X t) (t : Int) = qD.j6 K out X (yp K X (L - 1)) := by
  intro j
  induction j with
  | zero =>
    intro k t hj hk
    obtain ⟨k, rfl⟩ : ∃ m, k = m + 1 := ⟨k - 1, by omega⟩
    have : t = L - 1 := by omega
    subst this
    rw [qD.l5, qq, hL, qs (by omega) (by omega), if_neg (by omega)]
  | succ j ih =>
    intro k t hj hk
    obtain ⟨k, rfl⟩ : ∃ m, k = m + 1 := ⟨k - 1, by omega⟩
    have H := Ut K X hX hK hK2 h1 h2 h3
    have hr := XW K X hX hK hK2 t
    have hp : x4.m K (yp K X t) = .ok (prs (yp K X t)) := by
      refine UW K _ (by omega) (by omega) (by omega) fun p hp => ?_
      have g1 := H.good t p hp
      have g2 := H.big hb t p hp
      have p1 : (2 : Int) ^ t ≤ 2 ^ 14 := by have : 2 ^ t ≤ 2 ^ 14 := Nat.pow_le_pow_right (by decide) (by omega); exact_mod_cast this
      have p2 : 2 ^ t ≤ 2 ^ 14 := Nat.pow_le_pow_right (by decide) (by omega)
      refine ⟨by omega, by omega, by omega⟩
    rw [qD.l5, qq, hL, qs (by omega) (by omega), if_pos (by omega), hp, qN.bind_ok, hr.2.2, qN.bind_ok, qs (by omega) (by omega), ← hL]
    exact ih k (t + 1) (by omega) (by omega)
theorem QH : ∀ (l : List Int) (i : Nat), ∀ p ∈ uP l i, ∃ j, j < l.length ∧ 0 < rd l (j : Int) ∧ p = ⟨rd l (j : Int), [((i + j : Nat) : Int)]⟩
  | [], _, p, hp => by simp [uP] at hp
  | n :: r, i, p, hp => by
    have tail : p ∈ uP r (i + 1) → ∃ j, j < (n :: r).length ∧ 0 < rd (n :: r) (j : Int) ∧ p = ⟨rd (n :: r) (j : Int), [((i + j : Nat) : Int)]⟩ := by
      intro h
      obtain ⟨j, h1, h2, h3⟩ := QH r (i + 1) p h
      refine ⟨j + 1, by simp; exact h1, ?_, ?_⟩
      · have : rd (n :: r) ((j + 1 : Nat) : Int) = rd r (j : Int) := by simp [rd]
        rw [this]; exact h2
      · have : rd (n :: r) ((j + 1 : Nat) : Int) = rd r (j : Int) := by simp [rd]
        rw [this, h3]; simp; omega
    unfold uP at hp
    split at hp
    · rename_i h0
      rcases List.mem_cons.1 hp with rfl | hp
      · exact ⟨0, by simp, by simpa [rd] using h0, by simp [rd]⟩
      · exact tail hp
    · exact tail hp
theorem Xh : ∀ (l : List Int) (i j : Nat), j < l.length → 0 < rd l (j : Int) → (⟨rd l (j : Int), [((i + j : Nat) : Int)]⟩ : PK) ∈ uP l i
  | [], _, j, h, _ => by simp at h
  | n :: r, i, 0, h, h0 => by
    have : 0 < n := by simpa [rd] using h0
    simp [uP, this, rd]
  | n :: r, i, j + 1, h, h0 => by
    have e : rd (n :: r) ((j + 1 : Nat) : Int) = rd r (j : Int) := by simp [rd]
    rw [e] at h0 ⊢
    have := Xh r (i + 1) j (by simpa using h) h0
    rw [show ((i + 1 + j : Nat) : Int) = ((i + (j + 1) : Nat) : Int) from by omega] at this
    unfold uP
    split
    · exact List.mem_cons_of_mem _ this
    · exact this
theorem YJ : ∀ (l : List Int) (i : Nat), (xt (uP l i)).Nodup
  | [], _ => by simp [uP, xt]
  | n :: r, i => by
    have ih := YJ r (i + 1)
    unfold uP
    split
    · simp only [xt, List.flatMap_cons, List.singleton_append] at ih ⊢
      refine List.nodup_cons.2 ⟨fun h => ?_, ih⟩
      obtain ⟨p, hp, hs⟩ := List.mem_flatMap.1 h
      obtain ⟨j, _, _, rfl⟩ := QH r (i + 1) p hp
      simp at hs; omega
    · exact ih
end Go.Pu

set_option maxRecDepth 100000
namespace Go.Pu
open Go Go.Sl Go.Mo
structure Vk (often : List Int) (most : Int) (l : List Int) : Prop where
  len : l.length = often.length
  rng : ∀ j : Nat, j < often.length → 0 ≤ rd l (j : Int) ∧ rd l (j : Int) ≤ most
  zero : ∀ j : Nat, j < often.length → (rd l (j : Int) = 0 ↔ rd often (j : Int) = 0)
  chk : z1 l = 0
  mono : ∀ i k : Nat, i < often.length → k < often.length → 0 < rd often (i : Int) → rd often (i : Int) < rd often (k : Int) → rd l (k : Int) ≤ rd l (i : Int)
def wt (x : Int) : Nat := if 0 < x ∧ x < 16 then 2 ^ (15 - x.toNat) else 0
theorem KI : ∀ l : List Int, ks l 16 = (l.map wt).sum
  | [] => by simp [ks, c0]
  | x :: l => by rw [Xa, KI l, List.map_cons, List.sum_cons, wt, show ((16 : Nat) : Int) = 16 from rfl]; omega
theorem u6 : ∀ (X : List PK) (a : Nat), (∀ p ∈ X, p.symbols_.length = 1) → xt (X.take a) = (xt X).take a
  | [], a, _ => by simp [xt]
  | p :: X, 0, _ => by simp [xt]
  | p :: X, a + 1, h => by
    obtain ⟨s, hs⟩ := List.length_eq_one_iff.1 (h p (by simp))
    have := u6 X a (fun q hq => h q (by simp [hq]))
    simp only [xt] at this ⊢
    simp only [List.take_succ_cons, List.flatMap_cons, hs, List.singleton_append, this]
theorem yU : ∀ (X : List PK), (∀ p ∈ X, p.symbols_.length = 1) → (xt X).length = X.length
  | [], _ => rfl
  | p :: X, h => by
    have := yU X (fun q hq => h q (by simp [hq]))
    simp only [xt] at this
    simp only [xt, List.flatMap_cons, List.length_append, List.length_cons, this, h p (by simp)]; omega
theorem YM : ∀ (X : List PK) (i : Nat), (∀ p ∈ X, p.symbols_.length = 1) → i < X.length → ∃ s, (xt X)[i]? = some s ∧ (rd X (i : Int)).symbols_ = [s]
  | [], i, _, h => by simp at h
  | p :: X, 0, h, _ => by
    obtain ⟨s, hs⟩ := List.length_eq_one_iff.1 (h p (by simp))
    exact ⟨s, by simp [xt, hs], by simp [rd, hs]⟩
  | p :: X, i + 1, h, hi => by
    obtain ⟨s0, hs0⟩ := List.length_eq_one_iff.1 (h p (by simp))
    obtain ⟨s, h1, h2⟩ := YM X i (fun q hq => h q (by simp [hq])) (by simpa using hi)
    refine ⟨s, ?_, ?_⟩
    · simp only [xt] at h1
      simp [xt, hs0, h1]
    · have : rd (p :: X) ((i + 1 : Nat) : Int) = rd X (i : Int) := by simp [rd]
      rw [this]; exact h2
theorem Vo {Y : List Int} (hn : Y.Nodup) {i : Nat} {s : Int} (hs : Y[i]? = some s) (a : Nat) : (Y.take a).count s = if i < a then 1 else 0 := by
  obtain ⟨hi, rfl⟩ := List.getElem?_eq_some_iff.1 hs
  by_cases h : i < a
  · rw [if_pos h]
    have hm : Y[i] ∈ Y.take a := List.mem_take_iff_getElem.2 ⟨i, by omega, rfl⟩
    have h1 : 0 < (Y.take a).count Y[i] := List.count_pos_iff.2 hm
    have h2 := List.nodup_iff_count.1 (hn.sublist (List.take_sublist a Y)) Y[i]
    omega
  · rw [if_neg h]
    rw [List.count_eq_zero]
    intro hm
    obtain ⟨j, hj, hj2⟩ := List.mem_take_iff_getElem.1 hm
    have hpw := List.pairwise_iff_getElem.1 hn
    rcases Nat.lt_trichotomy i j with h1 | h1 | h1
    · exact hpw i j hi (by omega) h1 hj2.symm
    · omega
    · exact hpw j i (by omega) hi h1 hj2
theorem DA (as : List Nat) (i : Nat) : (as.map fun a => if i < a then 1 else 0).sum = ux as i := by
  induction as with
  | nil => rfl
  | cons a r ih =>
    rw [List.map_cons, List.sum_cons, ih]
    unfold ux
    by_cases h : i < a
    · rw [List.filter_cons_of_pos (by simpa using h), if_pos h, List.length_cons]; omega
    · rw [List.filter_cons_of_neg (by simpa using h), if_neg h]; omega
theorem Kx (as : List Nat) {i j : Nat} (h : i ≤ j) : ux as j ≤ ux as i := by
  unfold ux
  induction as with
  | nil => simp
  | cons a r ih =>
    simp only [List.filter_cons]
    by_cases hj : j < a
    · rw [if_pos (by simpa using hj), if_pos (by simp; omega)]; simp; exact ih
    · rw [if_neg (by simpa using hj)]
      split
      · rw [List.length_cons]; omega
      · exact ih
structure Kf (often : List Int) (X : List PK) : Prop where
  one : ∀ p ∈ X, p.symbols_.length = 1
  nod : (xt X).Nodup
  sym : ∀ i, i < X.length → ∃ j : Nat, j < often.length ∧ 0 < rd often (j : Int) ∧ (xt X)[i]? = some (j : Int) ∧ (rd X (i : Int)).often_ = rd often (j : Int)
  has : ∀ j : Nat, j < often.length → 0 < rd often (j : Int) → ∃ i, i < X.length ∧ (xt X)[i]? = some (j : Int)
theorem K7 {often : List Int} {X : List PK} (h : X.Perm (uP often 0)) : Kf often X := by
  have one : ∀ p ∈ X, p.symbols_.length = 1 := fun p hp => by
    obtain ⟨j, _, _, rfl⟩ := QH often 0 p (h.mem_iff.1 hp)
    rfl
  have hp : (xt X).Perm (xt (uP often 0)) := List.Perm.flatMap_right (fun p : PK => p.symbols_) h
  refine ⟨one, hp.nodup_iff.2 (YJ often 0), fun i hi => ?_, fun j hj h0 => ?_⟩
  · have hm : rd X (i : Int) ∈ X := by simp only [rd, Int.toNat_natCast, List.getD, List.getElem?_eq_getElem hi]; exact List.getElem_mem hi
    obtain ⟨j, h1, h2, h3⟩ := QH often 0 _ (h.mem_iff.1 hm)
    obtain ⟨s, h4, h5⟩ := YM X i one hi
    have e : s = ((0 + j : Nat) : Int) := by rw [h3] at h5; simpa using h5.symm
    rw [Nat.zero_add] at e
    exact ⟨j, h1, h2, by rw [h4, e], by rw [h3]⟩
  · have hm := h.mem_iff.2 (Xh often 0 j hj h0)
    have hs : ((0 + j : Nat) : Int) ∈ xt X := by
      unfold xt
      exact List.mem_flatMap.2 ⟨_, hm, by simp⟩
    obtain ⟨i, hi, he⟩ := List.getElem_of_mem hs
    rw [yU X one] at hi
    rw [Nat.zero_add] at he
    exact ⟨i, hi, by rw [List.getElem?_eq_getElem (by rw [yU X one]; exact hi), he]⟩
theorem UP {often : List Int} {X : List PK} {most : Int} {L : Nat} (hm : most = (L : Int)) (hL1 : 1 ≤ L) (hL : L ≤ 15) (hN : often.length ≤ 320) (hnn : ∀ n ∈ often, 0 ≤ n) (P : Kf often X) (hs : jD X) (as : List Nat) (hasl : as.length = L) (D : List Int)
    (hD : ∀ s, D.count s = (as.map fun a => (xt (X.take a)).count s).sum) (hk : ((List.range X.length).map fun i => 2 ^ (L - ux as i)).sum = 2 ^ L) (hX : 2 ≤ X.length) : Vk often most (jX often.length D) := by
  have hcnt : ∀ (i : Nat) (s : Int), (xt X)[i]? = some s → D.count s = ux as i := by
    intro i s hi
    rw [hD, ← DA]
    congr 1
    refine List.map_congr_left fun a _ => ?_
    rw [u6 X a P.one, Vo P.nod hi]
  have hrd : ∀ j : Nat, j < often.length → rd (jX often.length D) (j : Int) = ((D.count (j : Int) : Nat) : Int) := fun j hj => Xf hj
  have hone : ∀ i, i < X.length → 1 ≤ ux as i := by
    intro i hi
    refine Nat.pos_of_ne_zero fun h0 => ?_
    -- a term is the whole sum already, and there is another one
    have key : ∀ n, i < n → n ≤ X.length → 2 ^ L + (n - 1) ≤ ((List.range n).map fun i => 2 ^ (L - ux as i)).sum := by
      intro n
      induction n with
      | zero => intro h; omega
      | succ n ih =>
        intro h1 h2
        rw [List.range_succ, List.map_append, List.sum_append]
        simp only [List.map_cons, List.map_nil, List.sum_cons, List.sum_nil, Nat.add_zero]
        by_cases hin : i < n
        · have := ih hin (by omega)
          have h3 : 1 ≤ 2 ^ (L - ux as n) := Nat.one_le_two_pow
          omega
        · have : i = n := by omega
          subst this
          rw [h0, Nat.sub_zero]
          have low : ∀ m, m ≤ i → m ≤ ((List.range m).map fun i => 2 ^ (L - ux as i)).sum := by
            intro m
            induction m with
            | zero => intro _; exact Nat.zero_le _
            | succ m ih =>
              intro hm
              rw [List.range_succ, List.map_append, List.sum_append]
              simp only [List.map_cons, List.map_nil, List.sum_cons, List.sum_nil, Nat.add_zero]
              have := ih (by omega)
              have h3 : 1 ≤ 2 ^ (L - ux as m) := Nat.one_le_two_pow
              omega
          have := low i (Nat.le_refl _)
          omega
    have := key X.length hi (Nat.le_refl _)
    omega
  have hle : ∀ i, ux as i ≤ L := fun i => by rw [← hasl]; exact DW as i
  have hzero : ∀ j : Nat, j < often.length → ¬ 0 < rd often (j : Int) → D.count (j : Int) = 0 := by
    intro j hj h0
    rw [hD]
    have : ∀ a, (xt (X.take a)).count (j : Int) = 0 := by
      intro a
      rw [u6 X a P.one, List.count_eq_zero]
      intro hmem
      obtain ⟨i, hi, he⟩ := List.getElem_of_mem (List.mem_of_mem_take hmem)
      rw [yU X P.one] at hi
      obtain ⟨j', h1, h2, h3, _⟩ := P.sym i hi
      rw [List.getElem?_eq_getElem (by rw [yU X P.one]; exact hi), he] at h3
      have : j = j' := by have := Option.some.inj h3; omega
      subst this; exact h0 h2
    have z : ∀ as : List Nat, (as.map fun _ => 0).sum = 0 := by
      intro as
      induction as with
      | nil => rfl
      | cons a r ih => rw [List.map_cons, List.sum_cons, ih]
    simp only [this]
    exact z as
  have hNN : ∀ j : Nat, j < often.length → 0 ≤ rd often (j : Int) := fun j hj => hnn _ (by
    simp only [rd, Int.toNat_natCast, List.getD, List.getElem?_eq_getElem hj]; exact List.getElem_mem hj)
  have rng : ∀ j : Nat, j < often.length → 0 ≤ rd (jX often.length D) (j : Int) ∧ rd (jX often.length D) (j : Int) ≤ most := by
    intro j hj
    rw [hrd j hj, hm]
    by_cases h0 : 0 < rd often (j : Int)
    · obtain ⟨i, hi, h1⟩ := P.has j hj h0
      rw [hcnt i _ h1]
      have := hle i
      omega
    · rw [hzero j hj h0]; omega
  refine ⟨jr _ _, rng, fun j hj => ?_, ?_, fun i k hi hk0 h0 hlt => ?_⟩
  · rw [hrd j hj]
    by_cases h0 : 0 < rd often (j : Int)
    · obtain ⟨i, hi, h1⟩ := P.has j hj h0
      rw [hcnt i _ h1]
      have := hone i hi
      omega
    · rw [hzero j hj h0]
      have := hNN j hj
      omega
  · -- the sum
    have hok : XN (jX often.length D) := by
      refine ⟨by rw [jr]; exact hN, fun x hx => ?_⟩
      obtain ⟨j, hj, rfl⟩ := jR hx
      rw [jr] at hj
      have := rng j hj
      exact ⟨this.1, by omega⟩
    unfold z1
    rw [if_pos hok, if_pos]
    refine .inr (.inr ?_)
    rw [KI]
    -- over the symbols that come at all
    obtain ⟨F, hF⟩ : ∃ F : Int → Nat, ∀ s, F s = wt ((D.count s : Nat) : Int) := ⟨fun s => wt ((D.count s : Nat) : Int), fun _ => rfl⟩
    have e1 : ((jX often.length D).map wt).sum = (((List.range often.length).map fun (j : Nat) => (j : Int)).filter (fun s => decide (0 < rd often s)) |>.map F).sum := by
      have gen : ∀ n, n ≤ often.length → ((jX n D).map wt).sum = (((List.range n).map fun (j : Nat) => (j : Int)).filter (fun s => decide (0 < rd often s)) |>.map F).sum := by
        intro n
        induction n with
        | zero => intro _; rfl
        | succ n ih =>
          intro hn
          have := ih (by omega)
          unfold jX at this ⊢
          rw [List.range_succ, List.map_append, List.map_append, List.sum_append, this, List.map_append, List.filter_append, List.map_append, List.sum_append]
          congr 1
          simp only [List.map_cons, List.map_nil]
          by_cases h0 : 0 < rd often (n : Int)
          · rw [List.filter_cons_of_pos (by simpa using h0)]
            simp [hF]
          · rw [List.filter_cons_of_neg (by simpa using h0), hzero n (by omega) h0]
            simp [wt]
      exact gen _ (Nat.le_refl _)
    have hperm : (((List.range often.length).map fun (j : Nat) => (j : Int)).filter (fun s => decide (0 < rd often s))).Perm (xt X) := by
      refine (List.perm_ext_iff_of_nodup ?_ P.nod).2 fun s => ?_
      · refine List.Pairwise.filter _ ?_
        refine List.Pairwise.map _ ?_ List.nodup_range
        intro a b hab he; exact hab (by have he' : (a : Int) = (b : Int) := he; omega)
      · simp only [List.mem_filter, List.mem_map, List.mem_range, decide_eq_true_eq]
        constructor
        · rintro ⟨⟨j, hj, rfl⟩, h0⟩
          obtain ⟨i, hi, h1⟩ := P.has j hj h0
          exact List.mem_of_getElem? h1
        · intro hs
          obtain ⟨i, hi, he⟩ := List.getElem_of_mem hs
          rw [yU X P.one] at hi
          obtain ⟨j, h1, h2, h3, _⟩ := P.sym i hi
          rw [List.getElem?_eq_getElem (by rw [yU X P.one]; exact hi), he] at h3
          have : s = (j : Int) := by simpa using h3
          subst this
          exact ⟨⟨j, h1, rfl⟩, h2⟩
    rw [e1, (hperm.map F).sum_nat]
    have e2 : (xt X).map F = (List.range X.length).map fun i => wt ((ux as i : Nat) : Int) := by
      apply List.ext_getElem
      · simp [yU X P.one]
      · intro i h1 h2
        simp only [List.length_map, List.length_range] at h2
        simp only [List.getElem_map, List.getElem_range, hF]
        congr 2
        exact hcnt i _ (List.getElem?_eq_getElem _)
    rw [e2]
    have e3 : ∀ n, n ≤ X.length → ((List.range n).map fun i => wt ((ux as i : Nat) : Int)).sum = 2 ^ (15 - L) * ((List.range n).map fun i => 2 ^ (L - ux as i)).sum := by
      intro n
      induction n with
      | zero => intro _; rfl
      | succ n ih =>
        intro hn
        rw [List.range_succ, List.map_append, List.map_append, List.sum_append, List.sum_append, ih (by omega), Nat.mul_add]
        congr 1
        simp only [List.map_cons, List.map_nil, List.sum_cons, List.sum_nil, Nat.add_zero]
        have g1 := hone n (by omega)
        have g2 := hle n
        unfold wt
        rw [if_pos (by omega), Int.toNat_natCast, ← Nat.pow_add]
        congr 1; omega
    rw [e3 _ (Nat.le_refl _), hk, ← Nat.pow_add, show 15 - L + L = 15 from by omega]
  · rw [hrd i hi, hrd k hk0]
    obtain ⟨p, hp, h1⟩ := P.has i hi h0
    obtain ⟨q, hq, h2⟩ := P.has k hk0 (by omega)
    rw [hcnt p _ h1, hcnt q _ h2]
    have : ux as q ≤ ux as p := by
      refine Kx as ?_
      refine Nat.le_of_not_lt fun hlt2 => ?_
      have g := hs.rd (i := q) (j := p) (by omega) hp
      obtain ⟨j1, _, _, e1, e2⟩ := P.sym p hp
      obtain ⟨j2, _, _, e3, e4⟩ := P.sym q hq
      rw [h1] at e1; rw [h2] at e3
      have : i = j1 := by have := Option.some.inj e1; omega
      have : k = j2 := by have := Option.some.inj e3; omega
      subst_vars
      rw [e2, e4] at g
      omega
    omega
end Go.Pu

set_option maxRecDepth 100000
namespace Go.Pu
open Go Go.Sl Go.Mo
theorem U6 (often : List Int) (hnn : ∀ n ∈ often, 0 ≤ n ∧ n ≤ 1099511627776) : ∀ p ∈ uP often 0, p.symbols_.length = 1 ∧ 0 < p.often_ ∧ p.often_ ≤ 1099511627776 := by
  intro p hp
  obtain ⟨j, h1, h2, rfl⟩ := QH often 0 p hp
  have hm : rd often (j : Int) ∈ often := by simp only [rd, Int.toNat_natCast, List.getD, List.getElem?_eq_getElem h1]; exact List.getElem_mem h1
  exact ⟨rfl, h2, (hnn _ hm).2⟩
theorem VB (N : Nat) : nz (jX N []) = [] := by
  rw [Za, nz, List.filter_eq_nil_iff]
  intro x hx
  rw [(List.mem_replicate.1 hx).2]; simp
def GT (often : List Int) (L : Nat) (l : List Int) : Prop := ((uP often 0).length < 2 ∧ ∀ j : Nat, j < often.length → rd l (j : Int) ≤ 1) ∨
  ∃ X R, X.Perm (uP often 0) ∧ Rows X R ∧ 2 ≤ X.length ∧ 1 ≤ L ∧ 2 * X.length - 2 ≤ (R (L - 1)).length ∧ l = jX often.length (xt ((R (L - 1)).take (2 * X.length - 2)))
theorem KM (K : Nat) (often : List Int) (most : Int) (hK : 6000 ≤ K) (hK2 : (1099511627776 : Nat) > K) (h : GR often most) : ∃ l, qD.m K often most = .ok (l, 0) ∧ Vk often most l ∧ GT often most.toNat l := by
  obtain ⟨m1, m2, hN, hnn, hs⟩ := h
  obtain ⟨L, rfl⟩ : ∃ L : Nat, most = (L : Int) := ⟨most.toNat, by omega⟩
  rw [Int.toNat_natCast] at hs
  have hp15 : 2 ^ L ≤ 2 ^ 15 := Nat.pow_le_pow_right (by decide) (by omega)
  have hNN : ∀ j : Nat, j < often.length → 0 ≤ rd often (j : Int) := fun j hj => (hnn _ (by
    simp only [rd, Int.toNat_natCast, List.getD, List.getElem?_eq_getElem hj]; exact List.getElem_mem hj)).1
  -- the GI up to the single ones
  have hstart : qD.m K often (L : Int) = qD.j3 K often (L : Int) (uP often 0) := by
    unfold qD.m
    have h1 : (((decide ((L : Int) < (1 : Int))) || (decide ((L : Int) > (15 : Int)))) || (decide ((often.length : Int) > (320 : Int)))) = false := by
      simp only [Bool.or_eq_false_iff, decide_eq_false_iff_not]; omega
    have hc : xy.m K often = .ok (often.any UA) := Jv K often (by omega) K [] often rfl (by omega)
    rw [h1, cond_false, hc, qN.bind_ok, (Kh often).2 hnn]
    unfold qD.j1
    have := Gx K often (L : Int) (by omega) K [] often [] rfl (by omega) (Nat.le_refl _)
    rw [show (([] : List Int).length : Int) = 0 from rfl] at this
    rw [cond_false, this, List.nil_append]
    rfl
  have hsl := Xi often 0
  have hj3 : qD.j3 K often (L : Int) (uP often 0) = if (uP often 0).length = 1 then
      chk (inb (0 : Int) (uP often 0).length) (chk (inb (0 : Int) ((rd (uP often 0) (0 : Int)).symbols_).length) (chk (inb (rd ((rd (uP often 0) (0 : Int)).symbols_) (0 : Int)) (List.replicate often.length (0 : Int)).length)
        (lt ((List.replicate often.length (0 : Int)).set (Int.toNat (rd ((rd (uP often 0) (0 : Int)).symbols_) (0 : Int))) (1 : Int)) fun zs => qD.j4 K (L : Int) (uP often 0) zs)))
      else qD.j4 K (L : Int) (uP often 0) (List.replicate often.length 0) := by
    unfold qD.j3
    rw [zX (by omega), qf, GZ (by omega) (by omega), qq, if_neg (by rw [Int.toNat_natCast]; omega), Int.toNat_natCast, show (decide (0 ≤ (often.length : Int)) && room often.length 8) = true from by rw [Bool.and_eq_true]; exact ⟨zX (by omega), zg (by omega)⟩, qf, qF, qZ]
    by_cases h1 : (uP often 0).length = 1
    · rw [if_pos (by omega), if_pos h1]
    · rw [if_neg (by omega), if_neg h1]
  rw [hstart, hj3]
  have hfacts := U6 often hnn
  by_cases hn : (uP often 0).length < 2
  · by_cases h1 : (uP often 0).length = 1
    · -- one symbol
      rw [if_pos h1]
      obtain ⟨p, hp⟩ := List.length_eq_one_iff.1 h1
      obtain ⟨j, j1, j2, j3⟩ := QH often 0 p (by rw [hp]; simp)
      rw [Nat.zero_add] at j3
      have hr : rd (uP often 0) (0 : Int) = p := by rw [hp]; rfl
      have hr2 : rd p.symbols_ (0 : Int) = (j : Int) := by rw [j3]; rfl
      rw [hr, hr2, h1, show inb (0 : Int) 1 = true from rfl, qf, show inb (0 : Int) p.symbols_.length = true from by rw [j3]; rfl, qf, List.length_replicate, Yg j1, qf, qF, Int.toNat_natCast]
      unfold qD.j4
      rw [qq, if_pos (by omega)]
      have e : (List.replicate often.length (0 : Int)).set j 1 = jX often.length [(j : Int)] := by
        have := Ym (N := often.length) (D := []) j1
        rw [Za] at this
        simpa using this
      rw [e]
      have uniq : ∀ i : Nat, i < often.length → 0 < rd often (i : Int) → i = j := by
        intro i hi h0
        have := Xh often 0 i hi h0
        rw [hp, List.mem_singleton, j3] at this
        have := congrArg (fun q : PK => q.symbols_) this
        simp at this; omega
      have hc : ∀ i : Nat, i < often.length → rd (jX often.length [(j : Int)]) (i : Int) = if i = j then 1 else 0 := by
        intro i hi
        rw [Xf hi]
        by_cases hij : i = j
        · subst hij; simp
        · rw [if_neg hij]
          have : ¬ ((j : Int) = (i : Int)) := by omega
          simp [List.count_cons, this]
      refine ⟨_, rfl, ⟨jr _ _, fun i hi => ?_, fun i hi => ?_, ?_, fun i k hi hk h0 hlt => ?_⟩, .inl ⟨hn, fun i hi => by rw [hc i hi]; split <;> omega⟩⟩
      · rw [hc i hi]; split <;> omega
      · rw [hc i hi]
        by_cases hij : i = j
        · subst hij; rw [if_pos rfl]; omega
        · rw [if_neg hij]
          have := hNN i hi
          have h2 : ¬ 0 < rd often (i : Int) := fun h => hij (uniq i hi h)
          omega
      · unfold z1
        rw [if_pos, if_pos]
        · refine .inr (.inl ?_)
          rw [← e, nz]
          have gen : ∀ n, ∀ i, i < n → (((List.replicate n (0 : Int)).set i 1).filter fun x => decide (0 < x)) = [1] := by
            intro n
            induction n with
            | zero => intro i h; omega
            | succ n ih =>
              intro i hi
              cases i with
              | zero =>
                have z : ((List.replicate n (0 : Int)).filter fun x => decide (0 < x)) = [] := by
                  rw [List.filter_eq_nil_iff]; intro x hx; rw [(List.mem_replicate.1 hx).2]; simp
                rw [List.replicate_succ, List.set_cons_zero, List.filter_cons_of_pos (by decide), z]
              | succ i => rw [List.replicate_succ, List.set_cons_succ, List.filter_cons_of_neg (by decide), ih i (by omega)]
          exact gen _ j j1
        · refine ⟨by rw [jr]; exact hN, fun x hx => ?_⟩
          obtain ⟨i, hi, rfl⟩ := jR hx
          rw [jr] at hi
          rw [hc i hi]
          unfold Y3
          split <;> omega
      · have := uniq i hi h0
        have := uniq k hk (by omega)
        subst_vars; omega
    · -- none
      rw [if_neg h1]
      unfold qD.j4
      rw [qq, if_pos (by omega), ← Za]
      have h0 : uP often 0 = [] := List.length_eq_zero_iff.1 (by omega)
      have none : ∀ i : Nat, i < often.length → ¬ 0 < rd often (i : Int) := by
        intro i hi hpos
        have := Xh often 0 i hi hpos
        rw [h0] at this; cases this
      have hc : ∀ i : Nat, i < often.length → rd (jX often.length []) (i : Int) = 0 := fun i hi => by rw [Xf hi]; rfl
      refine ⟨_, rfl, ⟨jr _ _, fun i hi => by rw [hc i hi]; omega, fun i hi => ?_, ?_, fun i k hi hk hp hlt => (none i hi hp).elim⟩, .inl ⟨hn, fun i hi => by rw [hc i hi]; omega⟩⟩
      · rw [hc i hi]
        have := none i hi; have := hNN i hi; omega
      · unfold z1
        rw [if_pos, if_pos (.inl (VB _))]
        refine ⟨by rw [jr]; exact hN, fun x hx => ?_⟩
        obtain ⟨i, hi, rfl⟩ := jR hx
        rw [jr] at hi
        rw [hc i hi]; unfold Y3; omega
  · -- many
    rw [if_neg (by omega)]
    unfold qD.j4
    obtain ⟨X, x1, x2⟩ := X5 K (uP often 0) hK2 (by omega) (by omega)
    rw [qq, if_neg (by omega), x2, qN.bind_ok]
    have hXl : X.length = (uP often 0).length := x1.2.1.length_eq
    have g1 : ∀ p ∈ X, p.symbols_.length = 1 := fun p hp => (hfacts p (x1.2.1.mem_iff.1 hp)).1
    have g2 : ∀ p ∈ X, 0 < p.often_ := fun p hp => (hfacts p (x1.2.1.mem_iff.1 hp)).2.1
    have g3 : ∀ p ∈ X, p.often_ ≤ 1099511627776 := fun p hp => (hfacts p (x1.2.1.mem_iff.1 hp)).2.2
    have H := Ut K X (by omega) (by omega) hK2 g1 g2 x1.1
    have h5 := Gy K (L : Int) L rfl (by omega) (by omega) (List.replicate often.length 0) X (by omega) (by omega) hK2 g1 g2 x1.1 g3 (L - 1) K 0 (by omega) (by omega)
    rw [show ((0 : Nat) : Int) = 0 from rfl, show yp K X 0 = X from rfl] at h5
    rw [h5]
    unfold qD.j6
    -- enough packets
    have hlack := H.lack (L - 1)
    have hpow : 2 ^ L = 2 ^ (L - 1) + 2 ^ (L - 1) := by
      obtain ⟨q, rfl⟩ : ∃ q, L = q + 1 := ⟨L - 1, by omega⟩
      rw [Nat.pow_succ, Nat.add_sub_cancel]; omega
    have hp1 : 1 ≤ 2 ^ (L - 1) := Nat.one_le_two_pow
    have hr2 : 2 * X.length - (yp K X (L - 1)).length ≤ 2 := by
      refine Nat.le_of_not_lt fun h3 => ?_
      have : 3 * 2 ^ (L - 1) ≤ (2 * X.length - (yp K X (L - 1)).length) * 2 ^ (L - 1) := Nat.mul_le_mul_right _ h3
      omega
    have hm : 2 * X.length - 2 ≤ (yp K X (L - 1)).length := by omega
    have hrl := (XW K X (by omega) (by omega) hK2 (L - 1)).1
    rw [show qi (qi ((2 : Int) * (X.length : Int)) - 2) = ((2 * X.length - 2 : Nat) : Int) from by rw [qs (x := (2 : Int) * (X.length : Int)) (by omega) (by omega), qs (by omega) (by omega)]; omega,
      zn (by omega) (by omega) (by omega), qf, qF, X8]
    have P := K7 x1.2.1
    have hsize := H.size (L - 1) (2 * X.length - 2) hm
    have hsz : (L - 1 + 1) * X.length ≤ 15 * 320 := Nat.mul_le_mul (by omega) (by omega)
    have htl := (List.take_sublist (2 * X.length - 2) (yp K X (L - 1))).length_le
    have hzl : ((yp K X (L - 1)).take (2 * X.length - 2)).length = 2 * X.length - 2 := by rw [List.length_take]; omega
    have hcount := fun s => H.count s (L - 1) (2 * X.length - 2) hm
    have hsyms : ∀ s ∈ xt ((yp K X (L - 1)).take (2 * X.length - 2)), ∃ j : Nat, j < often.length ∧ s = (j : Int) := by
      intro s hs
      have h1 := List.count_pos_iff.2 hs
      rw [hcount] at h1
      obtain ⟨a, ha⟩ : ∃ a, 0 < (xt (X.take a)).count s := by
        refine Classical.byContradiction fun hno => ?_
        have hz : ∀ a, (xt (X.take a)).count s = 0 := fun a => Nat.eq_zero_of_not_pos fun hp => hno ⟨a, hp⟩
        have z : ∀ as : List Nat, (as.map fun _ => 0).sum = 0 := by
          intro as
          induction as with
          | nil => rfl
          | cons a r ih => rw [List.map_cons, List.sum_cons, ih]
        simp only [hz, z] at h1
        omega
      have hmem := List.count_pos_iff.1 ha
      rw [u6 X a g1] at hmem
      obtain ⟨i, hi, he⟩ := List.getElem_of_mem (List.mem_of_mem_take hmem)
      rw [yU X g1] at hi
      obtain ⟨j, q1, q2, q3, _⟩ := P.sym i hi
      rw [List.getElem?_eq_getElem (by rw [yU X g1]; exact hi), he] at q3
      exact ⟨j, q1, Option.some.inj q3⟩
    have h7 := Gz K often.length 4800 (by omega) (by omega) K [] ((yp K X (L - 1)).take (2 * X.length - 2)) (by omega) (by simp only [List.nil_append]; omega) (by simp only [List.nil_append]; omega) hsyms
    simp only [List.nil_append] at h7
    rw [show xt [] = [] from rfl, Za, show (([] : List PK).length : Int) = 0 from rfl] at h7
    rw [h7]
    have hk := KH X.length (Y8 (yp K X) (L - 1) (2 * X.length - 2)) (H.down _ _) (H.levle _ _ hm)
    rw [JO H (L - 1) _ hm, Xb, show L - 1 + 1 = L from by omega] at hk
    have hk2 : ((List.range X.length).map fun i => 2 ^ (L - ux (Y8 (yp K X) (L - 1) (2 * X.length - 2)) i)).sum = 2 ^ L := by
      have e1 : (2 * X.length - 2) * 2 ^ (L - 1) = (X.length - 1) * 2 ^ L := by
        rw [hpow, Nat.mul_add, ← Nat.add_mul]; congr 1; omega
      have e2 : X.length * 2 ^ L = (X.length - 1) * 2 ^ L + 2 ^ L := by
        conv => lhs; rw [show X.length = (X.length - 1) + 1 from by omega, Nat.add_mul, Nat.one_mul]
      omega
    exact ⟨_, rfl, UP rfl (by omega) (by omega) hN (fun n hn => (hnn n hn).1) P x1.1 _ (by rw [Xb]; omega) _ hcount hk2 (by omega), .inr ⟨X, yp K X, x1.2.1, H, by omega, by omega, hm, rfl⟩⟩
theorem JN (K : Nat) (often : List Int) (most : Int) (hK : 6000 ≤ K) (hK2 : (1099511627776 : Nat) > K) (h : GR often most) : ∃ l, qD.m K often most = .ok (l, 0) ∧ Vk often most l := by
  obtain ⟨l, h1, h2, _⟩ := KM K often most hK hK2 h
  exact ⟨l, h1, h2⟩
end Go.Pu

namespace Go.Pu
open Go Go.Sl Go.Mo
theorem Qx (K : Nat) (l : List Int) (hK : 320 < K) : xE.m K l = if z1 l = 0 then .ok (zP l, true) else .ok ([], false) := by
  unfold xE.m
  rw [XT K l hK]
  by_cases h : z1 l = 0
  · rw [if_pos h, if_pos h]
    rfl
  · rw [if_neg h, if_neg h]
    simp (disch := omega) only [qN.bind_ok, qN.bind_pan, qf, qF, zy, cond_true, cond_false, qq, qZ, zw, zu, zo, zQ, qs, zB, zc, ze, zl, z9, zn, zg, zR, zX, Int.toNat_natCast, beq_eq_false_iff_ne.2 h]
def fixL : List Int := (List.range 288).map fun i => if i < 144 ∨ 279 < i then 8 else if i < 256 then 9 else 7
def fixD : List Int := List.replicate 32 5
theorem jU : z1 fixL = 0 := by decide +kernel
theorem uT : z1 fixD = 0 := by decide +kernel
theorem UY (m : Nat) : zt.m (m + 300) = .ok (fixL, fixD) := by kernel_rfl
theorem J7 (K : Nat) (hK : 1000 < K) : zt.m K = .ok (fixL, fixD) := by
  obtain ⟨m, rfl⟩ : ∃ m, K = m + 300 := ⟨K - 300, by omega⟩
  exact UY m
def ub (t : List UInt8) (c : List Int) (n : Nat) : Nat → Nat → List Int → Except Int (Nat × List Int)
  | 0, _, _ => .error (-1)
  | k + 1, p, out =>
    if out.length < n then
      match uu c t p with
      | .error e => .error e
      | .ok (x, q) =>
        if x < 16 then ub t c n k q (out ++ [(x : Int)])
        else if x = 16 then
          if out.length = 0 then .error 3
          else match x5 t q 2 with
            | .error e => .error e
            | .ok (v, q') => if out.length + (3 + v) ≤ n then ub t c n k q' (out ++ List.replicate (3 + v) (out.getD (out.length - 1) 0)) else .error 3
        else if x = 17 then
          match x5 t q 3 with
          | .error e => .error e
          | .ok (v, q') => if out.length + (3 + v) ≤ n then ub t c n k q' (out ++ List.replicate (3 + v) 0) else .error 3
        else
          match x5 t q 7 with
          | .error e => .error e
          | .ok (v, q') => if out.length + (11 + v) ≤ n then ub t c n k q' (out ++ List.replicate (11 + v) 0) else .error 3
    else .ok (p, out)
theorem YF (K : Nat) (g : Int → List Int → qN (List Int × Int × Int)) (v : Int) (n : Nat) (q : Int) (hn : n < 140737488355328) : ∀ j k i out, i + j = n → j < k → out.length + j < 1000000 →
    qH.l3 K g q v (n : Int) k out (i : Int) = g q (out ++ List.replicate j v)
  | _, 0, _, _, _, h, _ => by omega
  | 0, k + 1, i, out, hi, _, _ => by
    rw [qH.l3]
    simp (disch := omega) only [qN.bind_ok, qN.bind_pan, qf, qF, zy, cond_true, cond_false, qq, qZ, zw, zu, zo, zQ, qs, zB, zc, ze, zl, z9, zn, zg, zR, zX, Int.toNat_natCast, if_neg, List.replicate_zero, List.append_nil]
  | j + 1, k + 1, i, out, hi, hk, ho => by
    rw [qH.l3]
    have h1 : room (out.length + ([v] : List Int).length) 8 = true := zg (by simp; omega)
    rw [h1]
    simp (disch := omega) only [qN.bind_ok, qN.bind_pan, qf, qF, zy, cond_true, cond_false, qq, qZ, zw, zu, zo, zQ, qs, zB, zc, ze, zl, z9, zn, zg, zR, zX, Int.toNat_natCast, if_pos]
    have e2 : (i : Int) + 1 = ((i + 1 : Nat) : Int) := by push_cast; rfl
    rw [e2, YF K g v n q hn j k (i + 1) _ (by omega) (by omega) (by simp; omega), List.replicate_succ, List.append_assoc]
    rfl
theorem ZK (K : Nat) (g : Int → List Int → qN (List Int × Int × Int)) (v : Int) (n m : Nat) (q : Int) (out : List Int) (hn : n < 400) (ho : out.length < n) (hm : m < 300) (hK : 1000 < K) :
    qH.j2 K g (n : Int) out q 0 v (m : Int) = if out.length + m ≤ n then g q (out ++ List.replicate m v) else .ok ([], 3, q) := by
  unfold qH.j2
  simp (disch := omega) only [qN.bind_ok, qN.bind_pan, qf, qF, zy, cond_true, cond_false, qq, qZ, zw, zu, zo, zQ, qs, zB, zc, ze, zl, z9, zn, zg, zR, zX, Int.toNat_natCast, if_true]
  by_cases h : out.length + m ≤ n
  · simp (disch := omega) only [qN.bind_ok, qN.bind_pan, qf, qF, zy, cond_true, cond_false, qq, qZ, zw, zu, zo, zQ, qs, zB, zc, ze, zl, z9, zn, zg, zR, zX, Int.toNat_natCast, if_neg, h, if_true]
    exact YF K g v m q (by omega) m K 0 out (by omega) (by omega) (by omega)
  · simp (disch := omega) only [qN.bind_ok, qN.bind_pan, qf, qF, zy, cond_true, cond_false, qq, qZ, zw, zu, zo, zQ, qs, zB, zc, ze, zl, z9, zn, zg, zR, zX, Int.toNat_natCast, if_pos, h, if_false]
def Lb (x : Nat × List Int) : List Int × Int := (x.2, (x.1 : Int))
end Go.Pu

namespace Go.Pu
open Go Go.Sl Go.Mo
def Xu (m : qN (List Int × Int × Int)) (s : Except Int (Nat × List Int)) : Prop :=
  match s with
  | .ok (q, out) => m = .ok (out, 0, (q : Int))
  | .error e => if e = -1 then m = .fail else ∃ p, m = .ok ([], e, p) ∧ e ≠ 0
theorem jA {m : qN (List Int × Int × Int)} {e p : Int} (h : e = 2 ∨ e = 3 ∨ e = 11) (hm : m = .ok ([], e, p)) : Xu m (.error e) := by
  unfold Xu
  dsimp only
  rw [if_neg (by omega)]
  exact ⟨_, hm, by omega⟩
theorem UZ (K : Nat) (t : List UInt8) (c : List Int) (n : Nat) (p0 : Int) (o0 : List Int) (Ka : Int) (hc : z1 c = 0) (hl : t.length < 140737488355328) (hn : n < 400) (hK : 1000 < K) : ∀ k p out, p ≤ 8 * t.length → out.length ≤ n →
    Xu (qH.l1 K ⟨⟨t, p0⟩, o0, Ka⟩ n ⟨c, zP c⟩ k (p : Int) out) (ub t c n k p out) := by
  intro k
  induction k with
  | zero => intro p out _ _; exact rfl
  | succ k ih =>
    intro p out hp ho
    rw [qH.l1, ub]
    by_cases h0 : out.length < n
    · simp (disch := omega) only [qN.bind_ok, qN.bind_pan, qf, qF, zy, cond_true, cond_false, qq, qZ, zw, zu, zo, zQ, qs, zB, zc, ze, zl, z9, zn, zg, zR, zX, Int.toNat_natCast, if_pos, h0, if_true]
      rw [Jj K c t p hc hl (by omega) hp]
      cases hx : uu c t p with
      | error e => rcases jw hx with rfl | rfl <;> exact jA (by decide) rfl
      | ok xq =>
        obtain ⟨x, q⟩ := xq
        have hq := (jB hx).2
        simp (disch := omega) only [qN.bind_ok, qN.bind_pan, qf, qF, zy, cond_true, cond_false, qq, qZ, zw, zu, zo, zQ, qs, zB, zc, ze, zl, z9, zn, zg, zR, zX, Int.toNat_natCast, if_true]
        by_cases h1 : x < 16
        · have h4 : room (out.length + ([(x : Int)] : List Int).length) 8 = true := zg (by simp; omega)
          simp (disch := omega) only [qN.bind_ok, qN.bind_pan, qf, qF, zy, cond_true, cond_false, qq, qZ, zw, zu, zo, zQ, qs, zB, zc, ze, zl, z9, zn, zg, zR, zX, Int.toNat_natCast, if_pos, h1, if_true, h4]
          exact ih q _ hq (by simp; omega)
        · simp (disch := omega) only [qN.bind_ok, qN.bind_pan, qf, qF, zy, cond_true, cond_false, qq, qZ, zw, zu, zo, zQ, qs, zB, zc, ze, zl, z9, zn, zg, zR, zX, Int.toNat_natCast, if_neg, h1, if_false]
          have e3 : (3 : Int) = ((3 : Nat) : Int) := rfl
          have e11 : (11 : Int) = ((11 : Nat) : Int) := rfl
          by_cases h2 : x = 16
          · simp (disch := omega) only [qN.bind_ok, qN.bind_pan, qf, qF, zy, cond_true, cond_false, qq, qZ, zw, zu, zo, zQ, qs, zB, zc, ze, zl, z9, zn, zg, zR, zX, Int.toNat_natCast, if_pos, h2, if_true]
            by_cases h3 : out.length = 0
            · simp (disch := omega) only [qN.bind_ok, qN.bind_pan, qf, qF, zy, cond_true, cond_false, qq, qZ, zw, zu, zo, zQ, qs, zB, zc, ze, zl, z9, zn, zg, zR, zX, Int.toNat_natCast, if_pos, h3, if_true]
              exact jA (by decide) rfl
            · have e1 : (out.length : Int) - 1 = ((out.length - 1 : Nat) : Int) := by omega
              simp (disch := omega) only [qN.bind_ok, qN.bind_pan, qf, qF, zy, cond_true, cond_false, qq, qZ, zw, zu, zo, zQ, qs, zB, zc, ze, zl, z9, zn, zg, zR, zX, Int.toNat_natCast, if_neg, h3, if_false, e1, jH]
              have hb := je K t q 2 3 o0 Ka (by omega) (by omega) hq hl (by omega)
              rw [show ((2 : Nat) : Int) = 2 from rfl, show ((3 : Nat) : Int) = 3 from rfl] at hb
              rw [hb]
              cases hv : x5 t q 2 with
              | error e =>
                have he := xn hv
                subst he
                exact jA (.inl rfl) rfl
              | ok vq =>
                obtain ⟨v, q1⟩ := vq
                have hq1 := (xj hv).2.2
                have hv2 := uc hv
                simp (disch := omega) only [qN.bind_ok, qN.bind_pan, qf, qF, zy, cond_true, cond_false, qq, qZ, zw, zu, zo, zQ, qs, zB, zc, ze, zl, z9, zn, zg, zR, zX, Int.toNat_natCast]
                rw [ZK K _ _ n (3 + v) _ _ hn h0 (by omega) hK]
                by_cases h4 : out.length + (3 + v) ≤ n
                · rw [if_pos h4, if_pos h4]
                  exact ih q1 _ hq1 (by simp; omega)
                · rw [if_neg h4, if_neg h4]
                  exact jA (by decide) rfl
          · simp (disch := omega) only [qN.bind_ok, qN.bind_pan, qf, qF, zy, cond_true, cond_false, qq, qZ, zw, zu, zo, zQ, qs, zB, zc, ze, zl, z9, zn, zg, zR, zX, Int.toNat_natCast, if_neg, h2, if_false]
            by_cases h3 : x = 17
            · simp (disch := omega) only [qN.bind_ok, qN.bind_pan, qf, qF, zy, cond_true, cond_false, qq, qZ, zw, zu, zo, zQ, qs, zB, zc, ze, zl, z9, zn, zg, zR, zX, Int.toNat_natCast, if_pos, h3, if_true]
              have hb := je K t q 3 3 o0 Ka (by omega) (by omega) hq hl (by omega)
              rw [show ((3 : Nat) : Int) = 3 from rfl] at hb
              rw [hb]
              cases hv : x5 t q 3 with
              | error e =>
                have he := xn hv
                subst he
                exact jA (.inl rfl) rfl
              | ok vq =>
                obtain ⟨v, q1⟩ := vq
                have hq1 := (xj hv).2.2
                have hv2 := uc hv
                simp (disch := omega) only [qN.bind_ok, qN.bind_pan, qf, qF, zy, cond_true, cond_false, qq, qZ, zw, zu, zo, zQ, qs, zB, zc, ze, zl, z9, zn, zg, zR, zX, Int.toNat_natCast]
                rw [ZK K _ _ n (3 + v) _ _ hn h0 (by omega) hK]
                by_cases h4 : out.length + (3 + v) ≤ n
                · rw [if_pos h4, if_pos h4]
                  exact ih q1 _ hq1 (by simp; omega)
                · rw [if_neg h4, if_neg h4]
                  exact jA (by decide) rfl
            · simp (disch := omega) only [qN.bind_ok, qN.bind_pan, qf, qF, zy, cond_true, cond_false, qq, qZ, zw, zu, zo, zQ, qs, zB, zc, ze, zl, z9, zn, zg, zR, zX, Int.toNat_natCast, if_neg, h3, if_false]
              have hb := je K t q 7 11 o0 Ka (by omega) (by omega) hq hl (by omega)
              rw [show ((7 : Nat) : Int) = 7 from rfl, show ((11 : Nat) : Int) = 11 from rfl] at hb
              rw [hb]
              cases hv : x5 t q 7 with
              | error e =>
                have he := xn hv
                subst he
                exact jA (.inl rfl) rfl
              | ok vq =>
                obtain ⟨v, q1⟩ := vq
                have hq1 := (xj hv).2.2
                have hv2 := uc hv
                simp (disch := omega) only [qN.bind_ok, qN.bind_pan, qf, qF, zy, cond_true, cond_false, qq, qZ, zw, zu, zo, zQ, qs, zB, zc, ze, zl, z9, zn, zg, zR, zX, Int.toNat_natCast]
                rw [ZK K _ _ n (11 + v) _ _ hn h0 (by omega) hK]
                by_cases h4 : out.length + (11 + v) ≤ n
                · rw [if_pos h4, if_pos h4]
                  exact ih q1 _ hq1 (by simp; omega)
                · rw [if_neg h4, if_neg h4]
                  exact jA (by decide) rfl
    · simp (disch := omega) only [qN.bind_ok, qN.bind_pan, qf, qF, zy, cond_true, cond_false, qq, qZ, zw, zu, zo, zQ, qs, zB, zc, ze, zl, z9, zn, zg, zR, zX, Int.toNat_natCast, if_neg, h0, if_false]
      exact rfl
theorem Jk {t : List UInt8} {c : List Int} {n : Nat} : ∀ {k p out q o}, ub t c n k p out = .ok (q, o) → out.length ≤ n → p ≤ 8 * t.length → o.length = n ∧ p ≤ q ∧ q ≤ 8 * t.length := by
  intro k
  induction k with
  | zero => intro p out q o h; cases h
  | succ k ih =>
    intro p out q o h ho hp
    rw [ub] at h
    split at h
    · split at h
      · cases h
      · rename_i x q1 hx
        have hq := jB hx
        split at h
        · have := ih h (by simp; omega) (by omega); omega
        · split at h
          · split at h
            · cases h
            · split at h
              · cases h
              · rename_i v q2 hv
                have := xj hv
                split at h
                · have := ih h (by simp; omega) (by omega); omega
                · cases h
          · split at h
            · split at h
              · cases h
              · rename_i v q2 hv
                have := xj hv
                split at h
                · have := ih h (by simp; omega) (by omega); omega
                · cases h
            · split at h
              · cases h
              · rename_i v q2 hv
                have := xj hv
                split at h
                · have := ih h (by simp; omega) (by omega); omega
                · cases h
    · obtain ⟨h1, h2⟩ := Prod.mk.inj (Except.ok.inj h)
      subst h1; subst h2; omega
theorem Br {t : List UInt8} {c : List Int} {n : Nat} : ∀ {k p out e}, ub t c n k p out = .error e → e = -1 ∨ e = 2 ∨ e = 3 := by
  intro k
  induction k with
  | zero => intro p out e h; cases h; exact .inl rfl
  | succ k ih =>
    intro p out e h
    rw [ub] at h
    split at h
    · split at h
      · rename_i hx; cases h; exact .inr (jw hx)
      · split at h
        · exact ih h
        · split at h
          · split at h
            · cases h; decide
            · split at h
              · rename_i hv; cases h; rw [xn hv]; decide
              · split at h
                · exact ih h
                · cases h; decide
          · split at h
            · split at h
              · rename_i hv; cases h; rw [xn hv]; decide
              · split at h
                · exact ih h
                · cases h; decide
            · split at h
              · rename_i hv; cases h; rw [xn hv]; decide
              · split at h
                · exact ih h
                · cases h; decide
    · cases h
def ordT : List Nat := [16, 17, 18, 0, 8, 7, 9, 6, 10, 5, 11, 4, 12, 3, 13, 2, 14, 1, 15]
def jt (t : List UInt8) : Nat → Nat → Nat → List Int → Except Int (Nat × List Int)
  | 0, _, p, l => .ok (p, l)
  | m + 1, i, p, l =>
    match x5 t p 3 with
    | .error e => .error e
    | .ok (v, q) => jt t m (i + 1) q (l.set (ordT.getD i 0) (v : Int))
def vi : List Int := List.replicate 19 0
def Q3 (t : List UInt8) (K p : Nat) : Except Int (Nat × List Int × List Int) :=
  match x5 t p 5 with
  | .error e => .error e
  | .ok (a, p1) =>
    match x5 t p1 5 with
    | .error e => .error e
    | .ok (b, p2) =>
      match x5 t p2 4 with
      | .error e => .error e
      | .ok (c, p3) =>
        if a ≤ 29 ∧ b ≤ 29 then
          match jt t (4 + c) 0 p3 vi with
          | .error e => .error e
          | .ok (p4, l) =>
            if l ≠ vi ∧ z1 l = 0 then
              match ub t l (258 + a + b) K p4 [] with
              | .error e => .error e
              | .ok (p5, all) =>
                if all.getD 256 0 ≠ 0 ∧ z1 (all.take (257 + a)) = 0 ∧ z1 (all.drop (257 + a)) = 0 then .ok (p5, all.take (257 + a), all.drop (257 + a)) else .error 3
            else .error 3
        else .error 3
theorem D3 : ∀ i : Nat, i < 19 → rd Zo (i : Int) = (ordT.getD i 0 : Int) ∧ ordT.getD i 0 < 19 := by decide
theorem Zj {t : List UInt8} : ∀ {m i p l q o}, jt t m i p l = .ok (q, o) → p ≤ 8 * t.length → o.length = l.length ∧ q ≤ 8 * t.length := by
  intro m
  induction m with
  | zero => intro i p l q o h hp; rw [jt] at h; cases h; exact ⟨rfl, hp⟩
  | succ m ih =>
    intro i p l q o h hp
    rw [jt] at h
    split at h
    · cases h
    · rename_i v q1 hv
      have := ih h (xj hv).2.2
      simpa using this
theorem YH {t : List UInt8} : ∀ {m i p l e}, jt t m i p l = .error e → e = 2 := by
  intro m
  induction m with
  | zero => intro i p l e h; rw [jt] at h; cases h
  | succ m ih =>
    intro i p l e h
    rw [jt] at h
    split at h
    · rename_i hv; cases h; exact xn hv
    · exact ih h
end Go.Pu

