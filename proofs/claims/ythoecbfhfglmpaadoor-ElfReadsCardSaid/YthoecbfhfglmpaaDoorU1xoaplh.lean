/- Plain facts on the models: what they compute, and what holds of them; conditions: what each theorem states. -/
import Derived.Test.YthoecbfhfglmpaaDoorMmlhfm
set_option linter.unusedVariables false
set_option linter.unusedSimpArgs false
namespace Go.Pu
open Go Go.Sl
theorem q8 {x : Int} (h0 : -9223372036854775808 ≤ x) (h1 : x < 9223372036854775808) : qM x = x := by
  show (if (true && decide (x % 18446744073709551616 ≥ 9223372036854775808)) = true then x % 18446744073709551616 - 18446744073709551616 else x % 18446744073709551616) = x
  split <;> rename_i h <;> simp at h <;> omega
theorem YG (x : Int) : wr .u64 x = x % 18446744073709551616 := by
  simp [wr, IntKind.wrap, IntKind.bits, IntKind.signed]
theorem YH (x : Int) : wr .u8 x = x % 256 := by
  simp [wr, IntKind.wrap, IntKind.bits, IntKind.signed]
theorem z7 {x : Int} (h0 : 0 ≤ x) (h1 : x < 18446744073709551616) : wr .u64 x = x := by rw [YG]; omega
theorem Xp {x : Int} (h0 : 0 ≤ x) (h1 : x < 256) : wr .u8 x = x := by rw [YH]; omega
theorem zF {x : Int} (h0 : -9223372036854775808 ≤ x) (h1 : x < 9223372036854775808) : wr .i64 x = x := q8 h0 h1
theorem Zc (n a : Nat) : BitVec.ofInt n (a : Int) = BitVec.ofNat n a := by
  apply BitVec.eq_of_toNat_eq
  simp
theorem Z3 {a b : Nat} (ha : a < 18446744073709551616) (hb : b < 18446744073709551616) : Yc .u64 a b = ((a ||| b : Nat) : Int) := by
  show IntKind.u64.wrap ((BitVec.ofInt 64 (a : Int) ||| BitVec.ofInt 64 (b : Int)).toNat : Int) = _
  simp only [Zc, BitVec.toNat_or, BitVec.toNat_ofNat]
  rw [Nat.mod_eq_of_lt (by simpa using ha), Nat.mod_eq_of_lt (by simpa using hb)]
  have : a ||| b < 2 ^ 64 := Nat.or_lt_two_pow (by simpa using ha) (by simpa using hb)
  exact z7 (by omega) (by omega)
theorem vi {k : IntKind} {a n : Nat} (hn : n ≤ k.bits) : yU k (a : Int) (n : Int) = ((a / 2 ^ n : Nat) : Int) := by
  unfold yU
  rw [Int.toNat_natCast, Nat.min_eq_left hn, Int.fdiv_eq_ediv_of_nonneg _ (Int.pow_nonneg (by decide))]
  simp
theorem ZC {a n : Nat} (hn : n ≤ 64) (h : a * 2 ^ n < 18446744073709551616) : Qc .u64 (a : Int) (n : Int) = ((a * 2 ^ n : Nat) : Int) := by
  unfold Qc
  rw [Int.toNat_natCast, show min n IntKind.u64.bits = n from Nat.min_eq_left hn]
  have e : (a : Int) * 2 ^ n = ((a * 2 ^ n : Nat) : Int) := by push_cast; rfl
  rw [e]
  exact z7 (by omega) (by omega)
end Go.Pu

namespace Go.Pn
open Go Go.Sl Go.Pu
theorem XN {i : Int} {n : Nat} (h0 : 0 ≤ i) (h1 : i < (n : Int)) : inb i n = true := jB.2 ⟨h0, h1⟩
theorem xj {lo hi : Int} {n : Nat} (h0 : 0 ≤ lo) (h1 : lo ≤ hi) (h2 : hi ≤ (n : Int)) : subok lo hi n = true := jc.2 ⟨h0, h1, h2⟩
theorem y1 {n k : Nat} (h : n * k ≤ 140737488355328) : room n k = true := decide_eq_true h
theorem Z2 {n : Nat} (h : n ≤ 9223372036854775807) : Qy n = true := decide_eq_true h
theorem Qv {x : Int} (h : 0 ≤ x) : decide (0 ≤ x) = true := decide_eq_true h
section
variable {α : Type}
theorem qE {p : Prop} [Decidable p] (a b : α) : cond (decide p) a b = if p then a else b := by
  by_cases h : p <;> simp [h]
theorem vZ {x y : Int} (a b : α) : cond (x == y) a b = if x = y then a else b := by
  by_cases h : x = y
  · rw [if_pos h, beq_iff_eq.2 h]; rfl
  · rw [if_neg h, beq_eq_false_iff_ne.2 h]; rfl
theorem j6 {x y : Int} (a b : α) : cond (x != y) a b = if x = y then b else a := by
  by_cases h : x = y
  · rw [if_pos h, bne_eq_false_iff_eq.2 h]; rfl
  · rw [if_neg h, bne_iff_ne.2 h]; rfl
theorem v1 (x : Bool) (a b : α) : cond (!x) a b = cond x b a := by cases x <;> rfl
theorem QN (x y : Bool) (a b : α) : cond (x || y) a b = cond x a (cond y a b) := by cases x <;> rfl
end
theorem QH {α : Type} [Inhabited α] {l : List α} {i : Nat} (h : i < l.length) : rd l (i : Int) = l[i] := by
  simp [rd, List.getD, List.getElem?_eq_getElem h]
theorem z9 {i n : Nat} (h : i < n) : inb (i : Int) n = true := by simp only [inb, decide_eq_true_eq]; omega
theorem ZX (n : Nat) : wr .u8 (n : Int) = ((n % 256 : Nat) : Int) := by rw [YH]; rfl
theorem vr {α : Type} (l : List α) (n m : Nat) : sub l (n : Int) (m : Int) = (l.drop n).take (m - n) := by
  simp only [sub, Int.toNat_natCast]
theorem yW {α : Type} (s : List α) (n : Nat) : sub s 0 (n : Int) = s.take n := by simp [sub]
theorem Qo {α : Type} (s : List α) (n : Nat) : sub s (n : Int) (s.length : Int) = s.drop n := by
  simp only [sub, Int.toNat_natCast]
  exact List.take_of_length_le (by simp)
theorem Qe (l : List UInt8) : (l.map vm).map yt = l := by
  rw [List.map_map]
  have : (yt ∘ vm) = id := by funext x; simp [yt, vm]
  rw [this, List.map_id]
theorem Zd {n : Nat} (h : n < 256) : vm (UInt8.ofNat n) = (n : Int) := by
  unfold vm
  have : (UInt8.ofNat n).toNat = n % 256 := by simp
  rw [this, Nat.mod_eq_of_lt h]
theorem jJ {α : Type} [Inhabited α] (A : List α) (x : α) (B : List α) {i : Int} (h : i = (A.length : Int)) : rd (A ++ x :: B) i = x := by
  subst h; simp [rd, List.getD]
theorem QI {α : Type} (A : List α) (x y : α) (B : List α) {i : Int} (h : i = (A.length : Int)) : (A ++ x :: B).set (Int.toNat i) y = A ++ y :: B := by
  subst h; simp
def yd (s : List UInt8) (i : Nat) : Nat := (s.getD i 0).toNat
theorem vY (s : List UInt8) (i : Nat) : yd s i < 256 := (s.getD i 0).toNat_lt
theorem QY {s : List UInt8} {i : Nat} : ((rd s (i : Int)).toNat : Int) = (yd s i : Int) := by
  simp only [rd, yd, Int.toNat_natCast]; rfl
def v7 (w : Nat) : Prop := w = 1 ∨ w = 2 ∨ w = 4 ∨ w = 8
def Jg (s : List UInt8) (at_ : Nat) : Nat → Nat
  | 0 => 0
  | w + 1 => Jg s at_ w * 256 + yd s (at_ + w)
def XP (s : List UInt8) (w : Nat) : Nat → Nat
  | 0 => 0
  | i + 1 => XP s w i + yd s (w - 1 - i) * 2 ^ (8 * i)
theorem Qt (s : List UInt8) (at_ w i : Nat) (h : i < w) : yd ((s.drop at_).take w) i = yd s (at_ + i) := by
  unfold yd
  rw [List.getD_eq_getElem?_getD, List.getD_eq_getElem?_getD, List.getElem?_take, if_pos h, List.getElem?_drop]
def Jh : Nat → Nat → List UInt8
  | 0, _ => []
  | w + 1, A => UInt8.ofNat (A / 256 ^ w % 256) :: Jh w A
def YI (i : Nat) : List UInt8 → Nat
  | [] => 0
  | x :: r => x.toNat * 256 ^ (3 - i % 4) + YI (i + 1) r
def Js (s : List UInt8) : Nat := YI 0 s % 4294967296
end Go.Pn

set_option maxRecDepth 100000
namespace Go.Pn
open Go Go.Sl Go.Pu Go.Mo
theorem vH (K : Nat) (w : Nat) (hw : v7 w) : yK.m K (w : Int) = .ok true := by
  rcases hw with rfl | rfl | rfl | rfl <;> rfl
def Jr (s : List UInt8) (at_ w : Nat) : Nat × Int := if at_ + w ≤ s.length then (Jg s at_ w, 0) else (0, 2)
theorem QX (K : Nat) (s : List UInt8) (base : Int) (at_ n : Nat) (hs : s.length < 140737488355328) (ha : at_ < 9223372036854775808) (hn : n < 9223372036854775808) (hb0 : 0 ≤ base) (hb1 : base < 140737488355328) :
    xx.m K ⟨s, base⟩ (at_ : Int) (n : Int) = if at_ + n ≤ s.length then .ok ((s.drop at_).take n, base + at_, 0) else .ok ([], 0, 2) := by
  unfold xx.m
  have h0 : (decide ((at_ : Int) < 0) || decide ((n : Int) < 0)) = false := by rw [Bool.or_eq_false_iff]; exact ⟨decide_eq_false (by omega), decide_eq_false (by omega)⟩
  rw [h0, cond_false]
  dsimp only
  by_cases h : at_ + n ≤ s.length
  · have h1 : (decide ((at_ : Int) > (s.length : Int)) || decide ((n : Int) > qM ((s.length : Int) - (at_ : Int)))) = false := by
      rw [Bool.or_eq_false_iff, q8 (by omega) (by omega)]; exact ⟨decide_eq_false (by omega), decide_eq_false (by omega)⟩
    have e : qM ((at_ : Int) + (n : Int)) = ((at_ + n : Nat) : Int) := by rw [q8 (by omega) (by omega)]; push_cast; rfl
    rw [h1, cond_false, if_pos h, e, xj (by omega) (by omega) (by omega), vr, Nat.add_sub_cancel_left, q8 (by omega) (by omega)]
    rfl
  · have h1 : (decide ((at_ : Int) > (s.length : Int)) || decide ((n : Int) > qM ((s.length : Int) - (at_ : Int)))) = true := by
      rw [Bool.or_eq_true, decide_eq_true_eq, decide_eq_true_eq]
      by_cases h2 : at_ > s.length
      · left; omega
      · right; rw [q8 (by omega) (by omega)]; omega
    rw [h1, cond_true, if_neg h]
theorem ZN (K : Nat) (w : Nat) (hw : v7 w) : xB.m K (w : Int) = .ok true := by
  rcases hw with rfl | rfl | rfl | rfl <;> rfl
def QC : List UInt8 := [0, 1, 2, 2, 3, 3, 3, 3, 4, 4, 4, 4, 4, 4, 4, 4, 5, 5, 5, 5, 5, 5, 5, 5, 5, 5, 5, 5, 5, 5, 5, 5, 6, 6, 6, 6, 6, 6, 6, 6, 6, 6, 6, 6, 6, 6, 6, 6, 6, 6, 6, 6, 6, 6, 6, 6, 6, 6, 6, 6, 6, 6, 6, 6, 7, 7, 7, 7, 7, 7, 7, 7, 7, 7, 7, 7, 7, 7, 7, 7, 7, 7, 7, 7, 7, 7, 7, 7, 7, 7, 7, 7, 7, 7, 7, 7, 7, 7, 7, 7, 7, 7, 7, 7, 7, 7, 7, 7, 7, 7, 7, 7, 7, 7, 7, 7, 7, 7, 7, 7, 7, 7, 7, 7, 7, 7, 7, 7, 8, 8, 8, 8, 8, 8, 8, 8, 8, 8, 8, 8, 8, 8, 8, 8, 8, 8, 8, 8, 8, 8, 8, 8, 8, 8, 8, 8, 8, 8, 8, 8, 8, 8, 8, 8, 8, 8, 8, 8, 8, 8, 8, 8, 8, 8, 8, 8, 8, 8, 8, 8, 8, 8, 8, 8, 8, 8, 8, 8, 8, 8, 8, 8, 8, 8, 8, 8, 8, 8, 8, 8, 8, 8, 8, 8, 8, 8, 8, 8, 8, 8, 8, 8, 8, 8, 8, 8, 8, 8, 8, 8, 8, 8, 8, 8, 8, 8, 8, 8, 8, 8, 8, 8, 8, 8, 8, 8, 8, 8, 8, 8, 8, 8, 8, 8, 8, 8, 8, 8, 8, 8, 8, 8, 8, 8, 8, 8]
theorem Zb : ∀ v : Nat, v < 256 → ∀ m : Nat, m < 9 → ((rd QC (v : Int)).toNat ≤ m ↔ v < 2 ^ m) := by decide +kernel
def vG (x r : Nat) : Prop := ∀ m : Nat, r ≤ m ↔ x < 2 ^ m
theorem Qb {x r : Nat} (hx : x < 256) (h : ∀ m, m < 9 → (r ≤ m ↔ x < 2 ^ m)) : vG x r := by
  intro m
  by_cases hm : m < 9
  · exact h m hm
  · have h8 := (h 8 (by omega)).2 (by omega)
    have : 2 ^ 8 ≤ 2 ^ m := Nat.pow_le_pow_right (by decide) (by omega)
    constructor <;> intro _ <;> omega
theorem jR {x r j : Nat} (hx : 2 ^ j ≤ x) (h : vG (x / 2 ^ j) r) : vG x (j + r) := by
  intro m
  by_cases hm : j ≤ m
  · have e : x / 2 ^ j < 2 ^ (m - j) ↔ x < 2 ^ m := by
      rw [Nat.div_lt_iff_lt_mul (Nat.two_pow_pos j), ← Nat.pow_add, show m - j + j = m by omega]
    rw [← e, ← h (m - j)]; omega
  · have : 2 ^ m < 2 ^ j := Nat.pow_lt_pow_right (by decide) (by omega)
    constructor <;> intro _ <;> omega
theorem Qd (K x n : Nat) (hx : x < 256) (hn : n ≤ 64) : ∃ r : Nat, vG x r ∧ qz.j3 K (x : Int) (n : Int) = .ok ((n + r : Nat) : Int) := by
  have ht := Zb x hx
  have e : wr .u8 (x : Int) = (x : Int) := Xp (by omega) (by omega)
  unfold qz.j3
  rw [e, z9 (by simpa using hx), qF, zo]
  show ∃ r : Nat, vG x r ∧ qA.ok (qM ((n : Int) + wr .i64 (((rd QC (x : Int)).toNat : Nat) : Int))) = .ok ((n + r : Nat) : Int)
  generalize (rd QC (x : Int)).toNat = q at ht ⊢
  have hq := (ht 8 (by omega)).2 (by omega)
  have e2 : wr .i64 (q : Int) = (q : Int) := zF (by omega) (by omega)
  rw [e2, q8 (by omega) (by omega)]
  exact ⟨q, Qb hx ht, by rw [Int.natCast_add]⟩
theorem Yp (K x : Nat) (hx : x < 18446744073709551616) : ∃ r : Nat, vG x r ∧ qz.m K (x : Int) = .ok (r : Int) := by
  have j2 : ∀ y n : Nat, y < 65536 → n ≤ 48 → ∃ r : Nat, vG y r ∧ qz.j2 K (y : Int) (n : Int) = .ok ((n + r : Nat) : Int) := by
    intro y n hy hn
    unfold qz.j2
    rw [qE]
    by_cases h : y ≥ 256
    · have e : yU .u64 (y : Int) 8 = ((y / 256 : Nat) : Int) := vi (n := 8) (by decide)
      rw [if_pos (by omega), zo, zo, e, q8 (by omega) (by omega), show (n : Int) + 8 = ((n + 8 : Nat) : Int) from by omega]
      obtain ⟨r, hr, h2⟩ := Qd K (y / 256) (n + 8) (by omega) (by omega)
      exact ⟨8 + r, jR (j := 8) (by omega) hr, by rw [h2, Nat.add_assoc]⟩
    · rw [if_neg (by omega)]
      exact Qd K y n (by omega) (by omega)
  have j1 : ∀ y n : Nat, y < 4294967296 → n ≤ 32 → ∃ r : Nat, vG y r ∧ qz.j1 K (y : Int) (n : Int) = .ok ((n + r : Nat) : Int) := by
    intro y n hy hn
    unfold qz.j1
    rw [qE]
    by_cases h : y ≥ 65536
    · have e : yU .u64 (y : Int) 16 = ((y / 65536 : Nat) : Int) := vi (n := 16) (by decide)
      rw [if_pos (by omega), zo, zo, e, q8 (by omega) (by omega), show (n : Int) + 16 = ((n + 16 : Nat) : Int) from by omega]
      obtain ⟨r, hr, h2⟩ := j2 (y / 65536) (n + 16) (by omega) (by omega)
      exact ⟨16 + r, jR (j := 16) (by omega) hr, by rw [h2, Nat.add_assoc]⟩
    · rw [if_neg (by omega)]
      exact j2 y n (by omega) (by omega)
  unfold qz.m
  rw [qE]
  by_cases h : x ≥ 4294967296
  · have e : yU .u64 (x : Int) 32 = ((x / 4294967296 : Nat) : Int) := vi (n := 32) (by decide)
    rw [if_pos (by omega), zo, e, show (32 : Int) = ((32 : Nat) : Int) from rfl]
    obtain ⟨r, hr, h2⟩ := j1 (x / 4294967296) 32 (by omega) (by omega)
    exact ⟨32 + r, jR (j := 32) (by omega) hr, h2⟩
  · rw [if_neg (by omega), show (0 : Int) = ((0 : Nat) : Int) from rfl]
    obtain ⟨r, hr, h2⟩ := j1 x 0 (by omega) (by omega)
    rw [Nat.zero_add] at h2
    exact ⟨r, hr, h2⟩
def YU (w A : Nat) : List UInt8 × Int := if A < 256 ^ w then (Jh w A, 0) else ([], 10)
end Go.Pn

set_option maxRecDepth 100000
namespace Go.Pn
open Go Go.Sl Go.Pu Go.Mo
def xk (s : List UInt8) (a : Nat) : Nat → Nat
  | 0 => 0
  | w + 1 => xk s a w + yd s (a + w) * 256 ^ w
theorem vx (s : List UInt8) (a : Nat) : ∀ w, xk s a w < 256 ^ w
  | 0 => by simp [xk]
  | w + 1 => by
    have h1 := vx s a w
    have h2 := vY s (a + w)
    have h3 : yd s (a + w) * 256 ^ w ≤ 255 * 256 ^ w := Nat.mul_le_mul_right _ (by omega)
    rw [xk, Nat.pow_succ]; omega
theorem x5 (s : List UInt8) (a : Nat) {w : Nat} (h : w ≤ 8) : xk s a w < 18446744073709551616 := by
  have h1 := vx s a w
  have h2 : 256 ^ w ≤ 256 ^ 8 := Nat.pow_le_pow_right (by decide) h
  omega
theorem Z6 (s : List UInt8) (a : Nat) {w : Nat} (h : w ≤ 4) : xk s a w < 4294967296 := by
  have h1 := vx s a w
  have h2 : 256 ^ w ≤ 256 ^ 4 := Nat.pow_le_pow_right (by decide) h
  omega
theorem uD (s : List UInt8) (a : Nat) : ∀ w, xk s a (w + 1) = yd s a + 256 * xk s (a + 1) w
  | 0 => by simp [xk]
  | w + 1 => by
    rw [xk, uD s a w, xk, show a + (w + 1) = a + 1 + w by omega, Nat.pow_succ, Nat.mul_add]
    have : 256 * (yd s (a + 1 + w) * 256 ^ w) = yd s (a + 1 + w) * (256 ^ w * 256) := by rw [Nat.mul_comm 256, Nat.mul_assoc]
    omega
theorem jj (s : List UInt8) (a n j : Nat) : ∀ i, j + i ≤ n → xk ((s.drop a).take n) j i = xk s (a + j) i
  | 0, _ => rfl
  | i + 1, h => by rw [xk, xk, jj s a n j i (by omega), Qt s a n (j + i) (by omega), Nat.add_assoc]
def Za : Nat → Nat → List UInt8
  | 0, _ => []
  | w + 1, A => Za w A ++ [UInt8.ofNat (A / 256 ^ w % 256)]
theorem vT : ∀ w A, (Za w A).length = w
  | 0, _ => rfl
  | w + 1, A => by rw [Za, List.length_append, List.length_singleton, vT w A]
theorem ZR (K : Nat) (v : List UInt8) (w : Nat) (hw : w ≤ 8) (hv : v.length = w) : ∀ (j k i : Nat), i + j = w → j < k →
    qQ.l1 K (w : Int) v k (xk v 0 i : Int) (i : Int) = .ok ((xk v 0 w : Int), 0) := by
  intro j
  induction j with
  | zero =>
    intro k i hi hk
    obtain ⟨k, rfl⟩ : ∃ m, k = m + 1 := ⟨k - 1, by omega⟩
    obtain rfl : i = w := by omega
    rw [qQ.l1, qE, if_neg (by omega)]
  | succ j ih =>
    intro k i hi hk
    obtain ⟨k, rfl⟩ : ∃ m, k = m + 1 := ⟨k - 1, by omega⟩
    have e2 : qM ((8 : Int) * (i : Int)) = ((8 * i : Nat) : Int) := by rw [q8 (by omega) (by omega)]; omega
    have e3 : qM ((i : Int) + 1) = ((i + 1 : Nat) : Int) := by rw [q8 (by omega) (by omega)]; omega
    have hb := vY v i
    have hpe : 2 ^ (8 * i) = 256 ^ i := by rw [Nat.pow_mul]
    have hp : 256 ^ i ≤ 256 ^ 7 := Nat.pow_le_pow_right (by decide) (by omega)
    have hm : yd v i * 256 ^ i ≤ 255 * 256 ^ i := Nat.mul_le_mul_right _ (by omega)
    have hl := vx v 0 i
    have e4 : wr .u64 ((yd v i : Nat) : Int) = ((yd v i : Nat) : Int) := z7 (by omega) (by omega)
    rw [qQ.l1, qE, if_pos (by omega)]
    unfold yc.m
    rw [qA.bind_ok, z9 (by omega), qF, e2, Qv (by omega), qF, QY, zo, e3, e4, ZC (by omega) (by rw [hpe]; omega), hpe, Z3 (by omega) (by omega)]
    have e5 : xk v 0 i ||| yd v i * 256 ^ i = xk v 0 (i + 1) := by
      rw [← hpe] at hl ⊢
      rw [Nat.or_comm, Nat.mul_comm, ← Nat.two_pow_add_eq_or_of_lt hl, xk, Nat.zero_add, ← hpe, Nat.mul_comm]; omega
    rw [e5]
    exact ih k (i + 1) (by omega) (by omega)
def vI (s : List UInt8) (a w : Nat) : Nat × Int := if a + w ≤ s.length then (xk s a w, 0) else (0, 2)
theorem YF (K : Nat) (s : List UInt8) (base : Int) (a w : Nat) (hw : v7 w) (hs : s.length < 140737488355328) (ha : a < 9223372036854775808) (hb0 : 0 ≤ base) (hb1 : base < 140737488355328) (hK : 8 < K) :
    qQ.m K ⟨s, base⟩ (a : Int) (w : Int) = .ok (((vI s a w).1 : Int), (vI s a w).2) := by
  unfold qQ.m vI
  have hw8 : w ≤ 8 := by unfold v7 at hw; omega
  rw [vH K w hw, QX K s base a w hs ha (by omega) hb0 hb1]
  simp only [qA.bind_ok, Bool.not_true, cond_false]
  by_cases h : a + w ≤ s.length
  · rw [if_pos h, if_pos h]
    have z : ((0 : Int) != 0) = false := rfl
    simp only [qA.bind_ok, z, cond_false, xp.m]
    have hl : ((s.drop a).take w).length = w := by simp; omega
    have := ZR K ((s.drop a).take w) w hw8 hl w K 0 (by omega) (by omega)
    rw [jj s a w 0 w (by omega)] at this
    exact this
  · rw [if_neg h, if_neg h]
    rfl
theorem Qk (K : Nat) (s : List UInt8) (a w : Nat) (hw : w ≤ 8) (h : a + w ≤ s.length) (hs : s.length < 140737488355328) : ∀ (j k i : Nat), i + j = w → j < k →
    qD.l1 K s (a : Int) (w : Int) false k ((xk s (a + w - i) i : Nat) : Int) (i : Int) = .ok (((xk s a w : Nat) : Int), 0) := by
  intro j
  induction j with
  | zero =>
    intro k i hi hk
    obtain ⟨k, rfl⟩ : ∃ m, k = m + 1 := ⟨k - 1, by omega⟩
    obtain rfl : i = w := by omega
    rw [qD.l1, qE, if_neg (by omega), Nat.add_sub_cancel]
  | succ j ih =>
    intro k i hi hk
    obtain ⟨k, rfl⟩ : ∃ m, k = m + 1 := ⟨k - 1, by omega⟩
    have e1 : qM (qM (qM ((a : Int) + (w : Int)) - 1) - (i : Int)) = ((a + w - (i + 1) : Nat) : Int) := by
      rw [q8 (x := (a : Int) + (w : Int)) (by omega) (by omega), q8 (x := (a : Int) + (w : Int) - 1) (by omega) (by omega), q8 (by omega) (by omega)]; omega
    have e3 : qM ((i : Int) + 1) = ((i + 1 : Nat) : Int) := by rw [q8 (by omega) (by omega)]; omega
    have hb := vx s (a + w - i) i
    have hp : 256 ^ i ≤ 256 ^ 7 := Nat.pow_le_pow_right (by decide) (by omega)
    have hxl := vY s (a + w - (i + 1))
    rw [qD.l1, qE, if_pos (by omega), e1, z9 (by omega), qF, zo, cond_false, QY]
    unfold qD.j2
    have e4 : wr .u64 (wr .u64 (((xk s (a + w - i) i : Nat) : Int) * 256) + wr .u64 ((yd s (a + w - (i + 1)) : Nat) : Int)) = ((xk s (a + w - (i + 1)) (i + 1) : Nat) : Int) := by
      rw [z7 (x := ((xk s (a + w - i) i : Nat) : Int) * 256) (by omega) (by omega), z7 (x := ((yd s (a + w - (i + 1)) : Nat) : Int)) (by omega) (by omega), z7 (by omega) (by omega)]
      rw [uD, show a + w - (i + 1) + 1 = a + w - i by omega]; omega
    rw [e4, e3, zo, zo]
    exact ih k (i + 1) (by omega) (by omega)
theorem ZM (K : Nat) (s : List UInt8) (a w : Nat) (hw : v7 w) (hs : s.length < 140737488355328) (ha : a < 9223372036854775808) (hK : 8 < K) :
    qD.m K s (a : Int) (w : Int) false = .ok (((vI s a w).1 : Int), (vI s a w).2) := by
  have hw8 : w ≤ 8 := by unfold v7 at hw; omega
  unfold qD.m vI
  rw [ZN K w hw, qA.bind_ok, show ((!true) || decide ((a : Int) < 0)) = false from by rw [Bool.not_true, Bool.false_or]; exact decide_eq_false (by omega), cond_false]
  by_cases h : a + w ≤ s.length
  · have d : (decide ((a : Int) > (s.length : Int)) || decide ((w : Int) > qM ((s.length : Int) - (a : Int)))) = false := by
      rw [Bool.or_eq_false_iff, q8 (by omega) (by omega)]
      exact ⟨decide_eq_false (by omega), decide_eq_false (by omega)⟩
    rw [d, cond_false, if_pos h]
    exact Qk K s a w hw8 h hs w K 0 (by omega) (by omega)
  · have d : (decide ((a : Int) > (s.length : Int)) || decide ((w : Int) > qM ((s.length : Int) - (a : Int)))) = true := by
      rw [Bool.or_eq_true, decide_eq_true_eq, decide_eq_true_eq]
      by_cases h2 : a > s.length
      · left; omega
      · right; rw [q8 (by omega) (by omega)]; omega
    rw [d, cond_true, if_neg h]; rfl
theorem Z7 (A w i : Nat) (h : i < w) : ((Za i A).map vm ++ List.replicate (w - i) (0 : Int)).set i ((A / 256 ^ i % 256 : Nat) : Int) = (Za (i + 1) A).map vm ++ List.replicate (w - (i + 1)) 0 := by
  rw [show w - i = (w - (i + 1)) + 1 by omega, List.replicate_succ]
  have := QI ((Za i A).map vm) (0 : Int) ((A / 256 ^ i % 256 : Nat) : Int) (List.replicate (w - (i + 1)) 0) (i := ((i : Nat) : Int)) (by rw [List.length_map, vT])
  rw [Int.toNat_natCast] at this
  rw [this, Za, List.map_append, List.map_cons, List.map_nil, Zd (Nat.mod_lt _ (by decide)), List.append_assoc]; rfl
theorem uW (K A w : Nat) (hw : w ≤ 8) (z : List Int) (hz : z.length = w) : ∀ (j k i : Nat), i + j = w → j < k →
    qV.l1 K (A : Int) z k ((Za i A).map vm ++ List.replicate (w - i) 0) (i : Int) = .ok (Za w A, 0) := by
  intro j
  induction j with
  | zero =>
    intro k i hi hk
    obtain ⟨k, rfl⟩ : ∃ m, k = m + 1 := ⟨k - 1, by omega⟩
    obtain rfl : i = w := by omega
    rw [qV.l1, qE, if_neg (by omega), zo, Nat.sub_self]
    simp only [List.replicate_zero, List.append_nil, Qe]
  | succ j ih =>
    intro k i hi hk
    obtain ⟨k, rfl⟩ : ∃ m, k = m + 1 := ⟨k - 1, by omega⟩
    have e2 : qM ((8 : Int) * (i : Int)) = ((8 * i : Nat) : Int) := by rw [q8 (by omega) (by omega)]; omega
    have e3 : qM ((i : Int) + 1) = ((i + 1 : Nat) : Int) := by rw [q8 (by omega) (by omega)]; omega
    have hl : ((Za i A).map vm ++ List.replicate (w - i) (0 : Int)).length = w := by simp only [List.length_append, List.length_replicate, List.length_map, vT]; omega
    rw [qV.l1, qE, if_pos (by omega), e2, Qv (by omega), qF]
    unfold yc.m
    rw [qA.bind_ok, z9 (by rw [hl]; omega), qF, zo, e3, vi (show 8 * i ≤ 64 by omega), ZX, show 2 ^ (8 * i) = 256 ^ i from by rw [Nat.pow_mul], Int.toNat_natCast, Z7 A w i (by omega)]
    exact ih k (i + 1) (by omega) (by omega)
def Qu (w A : Nat) : List UInt8 × Int := if A < 256 ^ w then (Za w A, 0) else ([], 10)
theorem Zh (K A w : Nat) (hw : v7 w) (hA : A < 18446744073709551616) (hK : 8 < K) : qV.m K (A : Int) (w : Int) = .ok (Qu w A) := by
  have hw8 : w ≤ 8 := by unfold v7 at hw; omega
  obtain ⟨r, hr, h⟩ := Yp K A hA
  unfold qV.m Qu
  rw [vH K w hw, qA.bind_ok, Bool.not_true, cond_false, h, qA.bind_ok, qE, q8 (by omega) (by omega)]
  have hm := hr (8 * w)
  rw [Nat.pow_mul, show (2 : Nat) ^ 8 = 256 from rfl] at hm
  by_cases hf : A < 256 ^ w
  · have := hm.2 hf
    have hl := uW K A w hw8 (List.replicate w 0) (List.length_replicate ..) w K 0 (by omega) (by omega)
    simp only [Nat.sub_zero, Za, List.map_nil, List.nil_append] at hl
    rw [if_pos hf, if_neg (by omega)]
    unfold xp.m
    rw [qA.bind_ok, Qv (by omega), Bool.true_and, y1 (by omega), qF, zo, Int.toNat_natCast]
    exact hl
  · rw [if_neg hf, if_pos (by omega)]
end Go.Pn

set_option maxRecDepth 100000
namespace Go.Pn
open Go Go.Sl Go.Pu Go.Mo
abbrev jg := qa
abbrev vV := qb
def lz (w : Nat) (a : Int) : List UInt8 := Za w a.toNat
def Xz (w : Nat) (L : List Int) : List UInt8 := L.flatMap (lz w)
def yq (w : Nat) (a : Int) : Prop := 0 ≤ a ∧ a < 256 ^ w
theorem u6 {w : Nat} {a : Int} (h : yq w a) : a.toNat < 256 ^ w ∧ ((a.toNat : Nat) : Int) = a := by
  obtain ⟨h0, h1⟩ := h
  have : ((256 ^ w : Nat) : Int) = (256 : Int) ^ w := by push_cast; rfl
  rw [← this] at h1
  generalize 256 ^ w = p at h1 ⊢
  omega
theorem QD (w : Nat) (a : Int) : (lz w a).length = w := vT ..
theorem ua (w : Nat) (a : Int) (L : List Int) : Xz w (a :: L) = lz w a ++ Xz w L := by simp [Xz]
theorem uR (w : Nat) : Xz w [] = [] := rfl
theorem Ys {n m : Nat} (h : n + m ≤ 140737488355328) : room (n + m) 1 = true := y1 (by omega)
theorem Jd {K w : Nat} (hw : v7 w) (hK : 8 < K) {a : Int} (h : yq w a) : qV.m K a (w : Int) = .ok (lz w a, 0) := by
  obtain ⟨h1, h2⟩ := u6 h
  have hle : 256 ^ w ≤ 256 ^ 8 := Nat.pow_le_pow_right (by decide) (by unfold v7 at hw; omega)
  have := Zh K a.toNat w hw (by omega) hK
  rw [h2] at this
  rw [this, Qu, if_pos h1]; rfl
theorem Xd {K w : Nat} (hw : v7 w) (hK : 8 < K) (L : List Int) (hL : ∀ a ∈ L, yq w a) (hLen : L.length < 140737488355328) (F : Nat → List Int → Int → qA (List Int))
    (hF : ∀ k buf v, F (k + 1) buf v = cond (decide (v < (L.length : Int))) (xC (inb v L.length) <| lt (rd L v) fun n => (qV.m K n (w : Int)).bind fun x => (xC (room (buf.length + x.1.length) 1) <| lt (buf ++ x.1.map vm) fun zs => lt (x.1.length : Int) fun v' => (.ok (v', zs) : qA (Int × List Int))).bind fun y => F k y.2 (qM (v + 1))) (.ok buf)) :
    ∀ (k : Nat) (D T : List Int) (B : List UInt8), D ++ T = L → T.length < k → B.length + 8 * T.length ≤ 140737488355328 → F k (B.map vm) (D.length : Int) = .ok ((B ++ Xz w T).map vm) := by
  intro k
  induction k with
  | zero => intro D T B _ h; omega
  | succ k ih =>
    intro D T B h1 hk hB
    have hlen : D.length + T.length = L.length := by rw [← h1]; simp
    rw [hF, qE]
    cases T with
    | nil => rw [if_neg (by simp only [List.length_nil] at hlen; omega), uR, List.append_nil]
    | cons a T =>
      simp only [List.length_cons] at hlen hk hB
      have e1 : rd L (D.length : Int) = a := by rw [← h1]; exact jJ D a T rfl
      have e3 : qM ((D.length : Int) + 1) = ((D ++ [a]).length : Int) := by rw [q8 (by omega) (by omega)]; simp
      have hw8 : w ≤ 8 := by unfold v7 at hw; omega
      rw [if_pos (by omega), z9 (by omega), qF, zo, e1, Jd hw hK (hL a (by rw [← h1]; simp)), qA.bind_ok]
      simp only [QD, List.length_map]
      rw [Ys (by omega), qF, zo, zo, qA.bind_ok, e3, ← List.map_append, ih (D ++ [a]) T (B ++ lz w a) (by rw [← h1]; simp) (by omega) (by rw [List.length_append, QD]; omega), ua, List.append_assoc]
theorem Zq {w : Nat} (L : List Int) (hL : ∀ a ∈ L, yq w a) (hw8 : w ≤ 8) (hLen : L.length < 140737488355328) (F : Nat → List Int → Int → qA (List Int)) (P : List Int → Int → qA (List Int))
    (hP : ∀ (B : List UInt8) (a : Int), yq w a → B.length + 8 ≤ 140737488355328 → P (B.map vm) a = .ok ((B ++ lz w a).map vm))
    (hF : ∀ k buf v, F (k + 1) buf v = cond (decide (v < (L.length : Int))) (xC (inb v L.length) <| lt (rd L v) fun n => (P buf n).bind fun b => F k b (qM (v + 1))) (.ok buf)) :
    ∀ (k : Nat) (D T : List Int) (B : List UInt8), D ++ T = L → T.length < k → B.length + 8 * T.length ≤ 140737488355328 → F k (B.map vm) (D.length : Int) = .ok ((B ++ Xz w T).map vm) := by
  intro k
  induction k with
  | zero => intro D T B _ h; omega
  | succ k ih =>
    intro D T B h1 hk hB
    have hlen : D.length + T.length = L.length := by rw [← h1]; simp
    rw [hF, qE]
    cases T with
    | nil => rw [if_neg (by simp only [List.length_nil] at hlen; omega), uR, List.append_nil]
    | cons a T =>
      simp only [List.length_cons] at hlen hk hB
      have e1 : rd L (D.length : Int) = a := by rw [← h1]; exact jJ D a T rfl
      have e3 : qM ((D.length : Int) + 1) = ((D ++ [a]).length : Int) := by rw [q8 (by omega) (by omega)]; simp
      rw [if_pos (by omega), z9 (by omega), qF, zo, e1, hP B a (hL a (by rw [← h1]; simp)) (by omega), qA.bind_ok, e3, ih (D ++ [a]) T (B ++ lz w a) (by rw [← h1]; simp) (by omega) (by rw [List.length_append, QD]; omega), ua, List.append_assoc]
theorem Xo {w : Nat} {a : Int} (hw : w ≤ 8) (h : yq w a) : wr .u64 a = a := by
  have hle : 256 ^ w ≤ 256 ^ 8 := Nat.pow_le_pow_right (by decide) hw
  obtain ⟨h1, h2⟩ := u6 h
  exact z7 h.1 (by omega)
section
variable {K : Nat} (hK : 2000 < K) {H : qc} {Nm : List Int} (B : List UInt8) {L : List Int} (hB : B.length + 8 * L.length ≤ 140737488355328) (hl : L.length < 1000)
include hK hB hl
theorem Y3 {w : Nat} (hw : v7 w) (hL : ∀ a ∈ L, yq w a) : zn.m K ⟨B.map vm⟩ (w : Int) L = .ok ((B ++ Xz w L).map vm) :=
  Xd hw (by omega) L hL (by omega) (zn.l1 K (w : Int) L) (fun _ _ _ => rfl) K [] L B rfl (by omega) hB
theorem hW (hL : ∀ a ∈ L, yq 2 a) : zN.m K ⟨B.map vm⟩ L = .ok ((B ++ Xz 2 L).map vm) :=
  Zq L hL (by omega) (by omega) (zN.l1 K L) (fun buf n => zn.m K ⟨buf⟩ (2 : Int) [wr .u64 n])
    (fun B a h hb => by
      rw [Xo (by decide) h]
      have := Y3 hK (L := [a]) B (by simpa using hb) (by simp) (w := 2) (by unfold v7; omega) (by simpa using h)
      rw [ua, uR, List.append_nil] at this; exact this) (fun _ _ _ => rfl) K [] L B rfl (by omega) hB
end
def Yr (B : List UInt8) : List UInt8 := B ++ List.replicate ((8 - B.length % 8) % 8) 0
def Y7 (x : vV) : List UInt8 := lz 4 x.Type_ ++ (lz 4 x.Flags_ ++ (lz 8 x.Offset_ ++ (lz 8 x.Vaddr_ ++ (lz 8 x.Paddr_ ++ (lz 8 x.Filesz_ ++ (lz 8 x.Memsz_ ++ lz 8 x.Align_))))))
def X4 (x : jg) (name at_ size : Int) : List UInt8 := lz 4 name ++ (lz 4 x.Type_ ++ (lz 8 x.Flags_ ++ (lz 8 x.Addr_ ++ (lz 8 at_ ++ (lz 8 size ++ (lz 4 x.Link_ ++ (lz 4 x.Info_ ++ (lz 8 x.Align_ ++ lz 8 x.Each_))))))))
structure XI (x : vV) : Prop where
  ty : yq 4 x.Type_
  fl : yq 4 x.Flags_
  of_ : yq 8 x.Offset_
  va : yq 8 x.Vaddr_
  pa : yq 8 x.Paddr_
  fs : yq 8 x.Filesz_
  me : yq 8 x.Memsz_
  al : yq 8 x.Align_
structure XH (x : jg) : Prop where
  ty : yq 4 x.Type_
  fl : yq 8 x.Flags_
  ad : yq 8 x.Addr_
  li : yq 4 x.Link_
  in_ : yq 4 x.Info_
  al : yq 8 x.Align_
  ea : yq 8 x.Each_
theorem w4 : v7 4 := by unfold v7; omega
theorem w8 : v7 8 := by unfold v7; omega
theorem w2 : v7 2 := by unfold v7; omega
end Go.Pn

set_option maxRecDepth 100000
namespace Go.Pn
open Go Go.Sl Go.Pu Go.Mo
abbrev uk := qJ
def ZB (n most : Int) : Bool := decide (n ≥ 0) && decide (n ≤ most)
def nz (x : UInt8) : Bool := !(x == 0)
def Zj (s : List UInt8) : Bool := s.all nz
def Yx (x : vV) : Bool := ZB x.Type_ 4294967295 && ZB x.Flags_ 4294967295 && ZB x.Offset_ 1099511627776 && ZB x.Filesz_ 1099511627776
def XO (x : jg) : Bool := cond (x.Type_ == (8 : Int)) (x.Data_ == ([] : List UInt8)) (x.Size_ == (0 : Int))
def Yv (x : jg) : Bool := ZB x.Type_ 4294967295 && ZB x.Link_ 4294967295 && ZB x.Info_ 4294967295 && ZB x.Size_ 1099511627776 && (decide ((x.Name_.length : Int) ≤ 200) && Zj x.Name_) && XO x
def JK (m : uk) : Bool := ZB m.Type_ 65535 && ZB m.Machine_ 65535 && ZB m.Flags_ 4294967295 && decide ((m.Segments_.length : Int) ≤ 1000) && decide ((m.Sections_.length : Int) ≤ 1000) && m.Segments_.all Yx && m.Sections_.all Yv
theorem QK {α : Type} [Inhabited α] (l : List α) (p : α → Bool) (Z : qA Bool) (F : Nat → Int → qA Bool)
    (h0 : ∀ k (v : Int), ¬ v < (l.length : Int) → F (k + 1) v = Z)
    (h1 : ∀ k (i : Nat), i < l.length → F (k + 1) (i : Int) = cond (p (rd l (i : Int))) (F k ((i + 1 : Nat) : Int)) (.ok false)) :
    ∀ (k : Nat) (D T : List α), D ++ T = l → T.length < k → F k (D.length : Int) = cond (T.all p) Z (.ok false) := by
  intro k
  induction k with
  | zero => intro D T _ h; omega
  | succ k ih =>
    intro D T h hk
    have hlen : D.length + T.length = l.length := by rw [← h]; simp
    cases T with
    | nil => rw [h0 k _ (by simp only [List.length_nil] at hlen; omega)]; rfl
    | cons x T =>
      simp only [List.length_cons] at hlen hk
      have e1 : rd l (D.length : Int) = x := by rw [← h]; exact jJ D x T rfl
      rw [h1 k D.length (by omega), e1, List.all_cons]
      cases hx : p x with
      | false => rfl
      | true =>
        have := ih (D ++ [x]) T (by rw [← h]; simp) (by omega)
        rw [List.length_append, List.length_singleton] at this
        rw [cond_true, Bool.true_and, this]
theorem Zy : ∀ s : List UInt8, decide (Lib.indexByte s 0 ≥ (0 : Int)) = !(Zj s)
  | [] => rfl
  | b :: s => by
    have ih := Zy s
    have hg := Lib.indexByte_ge s 0
    unfold Lib.indexByte Zj nz
    unfold Zj nz at ih
    rw [List.all_cons, Bool.not_and, Bool.not_not]
    cases hb : (b == 0) with
    | true => simp
    | false =>
      simp only [Bool.false_or, ← ih]
      by_cases h : Lib.indexByte s 0 = -1
      · rw [h]; rfl
      · have : (Lib.indexByte s 0 == -1) = false := beq_eq_false_iff_ne.2 h
        rw [this]
        simp only [Bool.false_eq_true, if_false]
        rw [Bool.eq_iff_iff]; simp only [decide_eq_true_eq]; omega
theorem Y0 (K : Nat) (s : List UInt8) : q7.m K s = .ok (Lib.indexByte s 0) := by
  unfold q7.m
  rw [zo]
  cases h : (([0] : List UInt8) == s) with
  | true => rw [← beq_iff_eq.1 h]; rfl
  | false => rfl
end Go.Pn

set_option maxRecDepth 100000
namespace Go.Pn
open Go Go.Sl Go.Pu Go.Mo
structure uo where
  b : List UInt8
  h : List UInt8
  n : List UInt8
def YB (t : uo) (x : jg) : uo :=
  cond (x.Data_ == ([] : List UInt8)) ⟨t.b, t.h ++ X4 x (t.n.length : Int) 0 x.Size_, t.n ++ (x.Name_ ++ [0])⟩
    ⟨Yr t.b ++ x.Data_, t.h ++ X4 x (t.n.length : Int) ((64 + (Yr t.b).length : Nat) : Int) (x.Data_.length : Int), t.n ++ (x.Name_ ++ [0])⟩
def Yt (t : uo) : List jg → uo
  | [] => t
  | x :: l => Yt (YB t x) l
def uV : List UInt8 := [46, 115, 104, 115, 116, 114, 116, 97, 98]
def Yo : jg := qa.mk ([] : List UInt8) (3 : Int) (0 : Int) (0 : Int) ([] : List UInt8) (0 : Int) (0 : Int) (0 : Int) (1 : Int) (0 : Int)
def v6 : List UInt8 := [127, 69, 76, 70, 2, 1, 1, 0, 0, 0, 0, 0, 0, 0, 0, 0]
def Yk (m : uk) (first last : Int) : List UInt8 :=
  v6 ++ (lz 2 m.Type_ ++ (lz 2 m.Machine_ ++ (lz 4 1 ++ (lz 8 m.Entry_ ++ (lz 8 first ++ (lz 8 last ++ (lz 4 m.Flags_ ++ (lz 2 64 ++ (lz 2 56 ++ (lz 2 (m.Segments_.length : Int) ++ (lz 2 64 ++ (lz 2 ((m.Sections_.length : Int) + 2) ++ lz 2 ((m.Sections_.length : Int) + 1)))))))))))))
def ZG (t : uo) : List UInt8 := t.n ++ (uV ++ [0])
def Xs (t : uo) : List UInt8 := Yr (Yr t.b ++ ZG t)
def Yj (t : uo) : List UInt8 := t.h ++ X4 Yo (t.n.length : Int) ((64 + (Yr t.b).length : Nat) : Int) ((ZG t).length : Int)
def Y2 (m : uk) (first : Int) (t : uo) : List UInt8 := Yk m first ((64 + (Xs t).length : Nat) : Int) ++ (Xs t ++ Yj t)
def XM (m : uk) : Int := if m.Segments_ = [] then 0 else 64
def X7 (m : uk) : uo := ⟨m.Segments_.flatMap Y7, List.replicate 64 0, [0]⟩
def Jj (m : uk) : List UInt8 := Y2 m (XM m) (Yt (X7 m) m.Sections_)
def JM (t : uo) : Nat := t.b.length + t.h.length + t.n.length
def JH (x : jg) : Nat := x.Data_.length + x.Name_.length + 80
def Jc : List jg → Nat
  | [] => 0
  | x :: l => JH x + Jc l
structure YQ (m : uk) : Prop where
  ty : yq 2 m.Type_
  ma : yq 2 m.Machine_
  en : yq 8 m.Entry_
  fl : yq 4 m.Flags_
  ng : m.Segments_.length ≤ 1000
  ns : m.Sections_.length ≤ 1000
  sg : ∀ x ∈ m.Segments_, XI x
  sc : ∀ x ∈ m.Sections_, XH x ∧ yq 8 x.Size_
theorem Qp (i : Nat) (h : i < 1000000) : qM ((i : Int) + 1) = ((i + 1 : Nat) : Int) := by rw [q8 (by omega) (by omega)]; omega
end Go.Pn

set_option maxRecDepth 100000
namespace Go.Pn
open Go Go.Sl Go.Pu Go.Mo
def XA (e : Int) : Value := .iface yD (.agg ⟨[.int .i64 e]⟩)
def uy {α β : Type} (r : Except Int β) (f : β → qA α) : qA α :=
  match r with
  | .error e => .pan (XA e)
  | .ok b => f b
theorem u5 {α β γ : Type} (r : Except Int β) (f : β → qA α) (g : α → qA γ) : (uy r f).bind g = uy r fun b => (f b).bind g := by cases r <;> rfl
theorem vf {α β γ : Type} (r : Except Int β) (f : β → Except Int γ) (g : γ → qA α) : uy (r.bind f) g = uy r fun b => uy (f b) g := by cases r <;> rfl
def zy : Nat := 1099511627776
def zc (s : List UInt8) (a w : Nat) : Int := ((xk s a w : Nat) : Int)
theorem xn (s : List UInt8) (a n j w : Nat) (h : j + w ≤ n) : zc ((s.drop a).take n) j w = zc s (a + j) w := by unfold zc; rw [jj s a n j w h]
theorem vO (s : List UInt8) (a w : Nat) : 0 ≤ zc s a w := Int.natCast_nonneg _
theorem Qg (s : List UInt8) (a : Nat) : zc s a 4 < 4294967296 := by have := Z6 s a (w := 4) (by decide); unfold zc; omega
theorem Xa (s : List UInt8) (a : Nat) : zc s a 2 < 65536 := by have := vx s a 2; unfold zc; omega
def ui (s t : List UInt8) (o : Nat) : Except Int vV :=
  if xk t (o + 8) 8 > zy ∨ xk t (o + 32) 8 > zy then .error 3
  else if xk t (o + 8) 8 + xk t (o + 32) 8 ≤ s.length then .ok ⟨zc t o 4, zc t (o + 4) 4, zc t (o + 8) 8, zc t (o + 16) 8, zc t (o + 24) 8, zc t (o + 32) 8, zc t (o + 40) 8, zc t (o + 48) 8⟩
  else .error 2
def yb (s t : List UInt8) (o : Nat) : Nat → List vV → Except Int (List vV)
  | 0, l => .ok l
  | n + 1, l => (ui s t o).bind fun x => yb s t (o + 56) n (l ++ [x])
def vo (s t : List UInt8) (o : Nat) : Except Int (jg × Int) :=
  if xk t (o + 24) 8 > zy ∨ xk t (o + 32) 8 > zy then .error 3
  else if zc t (o + 4) 4 = 8 then .ok (⟨[], zc t (o + 4) 4, zc t (o + 8) 8, zc t (o + 16) 8, [], zc t (o + 32) 8, zc t (o + 40) 4, zc t (o + 44) 4, zc t (o + 48) 8, zc t (o + 56) 8⟩, zc t o 4)
  else if xk t (o + 24) 8 + xk t (o + 32) 8 ≤ s.length then
    .ok (⟨[], zc t (o + 4) 4, zc t (o + 8) 8, zc t (o + 16) 8, (s.drop (xk t (o + 24) 8)).take (xk t (o + 32) 8), 0, zc t (o + 40) 4, zc t (o + 44) 4, zc t (o + 48) 8, zc t (o + 56) 8⟩, zc t o 4)
  else .error 2
def x3 (s t : List UInt8) (o : Nat) : Nat → List jg → List Int → Except Int (List jg × List Int)
  | 0, l, ns => .ok (l, ns)
  | n + 1, l, ns => (vo s t o).bind fun x => x3 s t (o + 64) n (l ++ [x.1]) (ns ++ [x.2])
theorem Qn (s : List UInt8) (a n j : Nat) (h : j + 56 ≤ n) : ui s ((s.drop a).take n) j = ui s s (a + j) := by
  unfold ui
  rw [jj s a n (j + 8) 8 (by omega), jj s a n (j + 32) 8 (by omega), xn s a n j 4 (by omega), xn s a n (j + 4) 4 (by omega), xn s a n (j + 8) 8 (by omega), xn s a n (j + 16) 8 (by omega), xn s a n (j + 24) 8 (by omega), xn s a n (j + 32) 8 (by omega), xn s a n (j + 40) 8 (by omega), xn s a n (j + 48) 8 (by omega)]
  simp only [← Nat.add_assoc]
theorem Qm (s : List UInt8) (a n j : Nat) (h : j + 64 ≤ n) : vo s ((s.drop a).take n) j = vo s s (a + j) := by
  unfold vo
  rw [jj s a n (j + 24) 8 (by omega), jj s a n (j + 32) 8 (by omega), xn s a n j 4 (by omega), xn s a n (j + 4) 4 (by omega), xn s a n (j + 8) 8 (by omega), xn s a n (j + 16) 8 (by omega), xn s a n (j + 32) 8 (by omega), xn s a n (j + 40) 4 (by omega), xn s a n (j + 44) 4 (by omega), xn s a n (j + 48) 8 (by omega), xn s a n (j + 56) 8 (by omega)]
  simp only [← Nat.add_assoc]
theorem uL (s : List UInt8) (a n : Nat) : ∀ (i j : Nat) (l : List vV), j + 56 * i ≤ n → yb s ((s.drop a).take n) j i l = yb s s (a + j) i l
  | 0, _, _, _ => rfl
  | i + 1, j, l, h => by
    rw [yb, yb, Qn s a n j (by omega)]
    congr 1
    funext x
    rw [uL s a n i (j + 56) _ (by omega), Nat.add_assoc]
theorem uJ (s : List UInt8) (a n : Nat) : ∀ (i j : Nat) (l : List jg) (ns : List Int), j + 64 * i ≤ n → x3 s ((s.drop a).take n) j i l ns = x3 s s (a + j) i l ns
  | 0, _, _, _, _ => rfl
  | i + 1, j, l, ns, h => by
    rw [x3, x3, Qm s a n j (by omega)]
    congr 1
    funext x
    rw [uJ s a n i (j + 64) _ _ (by omega), Nat.add_assoc]
theorem ub (K : Nat) (s : List UInt8) (hs : s.length < 140737488355328) (a n : Nat) (ha : a < 18446744073709551616) (hn : n < 18446744073709551616) :
    q6.m K ⟨⟨s, 0⟩⟩ (a : Int) (n : Int) = if a + n ≤ s.length then .ok ((s.drop a).take n, (a : Int)) else .pan (XA 2) := by
  unfold q6.m xQ.m
  simp only [zo, qA.bind_ok]
  rw [z7 (x := (s.length : Int)) (by omega) (by omega), qE]
  by_cases h1 : a > s.length
  · rw [if_pos (by omega), if_neg (by omega)]; rfl
  · rw [if_neg (by omega)]
    unfold q6.j1 zr.m
    rw [qE]
    by_cases h2 : n > s.length
    · rw [if_pos (by omega), if_neg (by omega)]; rfl
    · rw [if_neg (by omega), qA.bind_ok, zF (by omega) (by omega), zF (by omega) (by omega), QX K s 0 a n hs (by omega) (by omega) (by omega) (by omega)]
      by_cases h3 : a + n ≤ s.length
      · rw [if_pos h3, if_pos h3, Int.zero_add]; rfl
      · rw [if_neg h3, if_neg h3]; rfl
section
variable {K : Nat} (hK : 8 < K) {t : List UInt8} (ht : t.length < 140737488355328) {base : Int} (hb0 : 0 ≤ base) (hb1 : base < 140737488355328)
include hK ht hb0 hb1
theorem XU {w o : Nat} (hw : v7 w) (h : o + w ≤ t.length) : zL.m K ⟨⟨t, base⟩, (o : Int)⟩ (w : Int) = .ok (zc t o w, ((o + w : Nat) : Int)) := by
  unfold zL.m
  have hw8 : w ≤ 8 := by unfold v7 at hw; omega
  rw [YF K t base o w hw ht (by omega) hb0 hb1 hK, qA.bind_ok, vI, if_pos h]
  simp only []
  rw [q8 (by omega) (by omega)]
  rfl
theorem hP {o : Nat} (h : o + 2 ≤ t.length) : zt.m K ⟨⟨t, base⟩, (o : Int)⟩ = .ok (zc t o 2, ((o + 2 : Nat) : Int)) := by
  unfold zt.m
  have := XU hK ht hb0 hb1 w2 h
  rw [show ((2 : Nat) : Int) = 2 from rfl] at this
  have h1 := vO t o 2
  have h2 := Xa t o
  rw [this, qA.bind_ok]
  simp only [zo]
  rw [zF (by omega) (by omega)]
theorem wP {o : Nat} (h : o + 4 ≤ t.length) : zC.m K ⟨⟨t, base⟩, (o : Int)⟩ = .ok (zc t o 4, ((o + 4 : Nat) : Int)) := by
  unfold zC.m
  have := XU hK ht hb0 hb1 w4 h
  rw [show ((4 : Nat) : Int) = 4 from rfl] at this
  have h1 := vO t o 4
  have h2 := Qg t o
  rw [this, qA.bind_ok]
  simp only [zo]
  rw [zF (by omega) (by omega)]
theorem xP {o : Nat} (h : o + 8 ≤ t.length) : qZ.m K ⟨⟨t, base⟩, (o : Int)⟩ = .ok (zc t o 8, ((o + 8 : Nat) : Int)) := by
  unfold qZ.m
  have := XU hK ht hb0 hb1 w8 h
  rw [show ((8 : Nat) : Int) = 8 from rfl] at this
  rw [this, qA.bind_ok]
theorem Y8 (s : List UInt8) (hs : s.length < 140737488355328) {o : Nat} (h : o + 56 ≤ t.length) :
    xv.m K ⟨⟨s, 0⟩⟩ ⟨⟨t, base⟩, (o : Int)⟩ = uy (ui s t o) fun x => .ok (x.Type_, x.Flags_, x.Offset_, x.Vaddr_, x.Paddr_, x.Filesz_, x.Memsz_, x.Align_, ((o + 56 : Nat) : Int)) := by
  unfold xv.m
  rw [wP hK ht hb0 hb1 (by omega), qA.bind_ok]
  simp only []
  rw [wP hK ht hb0 hb1 (by omega), qA.bind_ok]
  simp only []
  rw [xP hK ht hb0 hb1 (by omega), qA.bind_ok]
  simp only []
  rw [xP hK ht hb0 hb1 (by omega), qA.bind_ok]
  simp only []
  rw [xP hK ht hb0 hb1 (by omega), qA.bind_ok]
  simp only []
  rw [xP hK ht hb0 hb1 (by omega), qA.bind_ok]
  simp only []
  rw [xP hK ht hb0 hb1 (by omega), qA.bind_ok]
  simp only []
  rw [xP hK ht hb0 hb1 (by omega), qA.bind_ok]
  simp only [Nat.add_assoc, Nat.reduceAdd]
  unfold yY.m zr.m ui
  have h1 := x5 t (o + 8) (w := 8) (by decide)
  have h2 := x5 t (o + 32) (w := 8) (by decide)
  rw [qE, qE]
  by_cases g1 : xk t (o + 8) 8 > zy
  · rw [if_pos (by unfold zc zy at *; omega), if_pos (Or.inl g1)]; rfl
  · rw [if_neg (by unfold zc zy at *; omega), qA.bind_ok, qA.bind_ok]
    by_cases g2 : xk t (o + 32) 8 > zy
    · rw [if_pos (by unfold zc zy at *; omega), if_pos (Or.inr g2)]; rfl
    · rw [if_neg (by unfold zc zy at *; omega), if_neg (by omega), qA.bind_ok, qA.bind_ok]
      unfold zc
      rw [ub K s hs _ _ h1 h2]
      by_cases g3 : xk t (o + 8) 8 + xk t (o + 32) 8 ≤ s.length
      · rw [if_pos g3, if_pos g3, qA.bind_ok]
        simp only [uy]
        rw [zF (x := ((xk t (o + 8) 8 : Nat) : Int)) (by omega) (by unfold zy at g1; omega), zF (x := ((xk t (o + 32) 8 : Nat) : Int)) (by omega) (by unfold zy at g2; omega)]
      · rw [if_neg g3, if_neg g3]; rfl
theorem Y6 (s : List UInt8) (hs : s.length < 140737488355328) {o : Nat} (h : o + 64 ≤ t.length) :
    zl.m K ⟨⟨s, 0⟩⟩ ⟨⟨t, base⟩, (o : Int)⟩ = uy (vo s t o) fun x => .ok (x.1.Type_, x.1.Flags_, x.1.Addr_, x.1.Data_, x.1.Size_, x.1.Link_, x.1.Info_, x.1.Align_, x.1.Each_, x.2, ((o + 64 : Nat) : Int)) := by
  unfold zl.m
  rw [wP hK ht hb0 hb1 (by omega), qA.bind_ok]
  simp only []
  rw [wP hK ht hb0 hb1 (by omega), qA.bind_ok]
  simp only []
  rw [xP hK ht hb0 hb1 (by omega), qA.bind_ok]
  simp only []
  rw [xP hK ht hb0 hb1 (by omega), qA.bind_ok]
  simp only []
  rw [xP hK ht hb0 hb1 (by omega), qA.bind_ok]
  simp only []
  rw [xP hK ht hb0 hb1 (by omega), qA.bind_ok]
  simp only []
  rw [wP hK ht hb0 hb1 (by omega), qA.bind_ok]
  simp only []
  rw [wP hK ht hb0 hb1 (by omega), qA.bind_ok]
  simp only []
  rw [xP hK ht hb0 hb1 (by omega), qA.bind_ok]
  simp only []
  rw [xP hK ht hb0 hb1 (by omega), qA.bind_ok]
  simp only [Nat.add_assoc, Nat.reduceAdd]
  unfold yY.m zr.m vo
  have h1 := x5 t (o + 24) (w := 8) (by decide)
  have h2 := x5 t (o + 32) (w := 8) (by decide)
  rw [qE, qE]
  by_cases g1 : xk t (o + 24) 8 > zy
  · rw [if_pos (by unfold zc zy at *; omega), if_pos (Or.inl g1)]; rfl
  · rw [if_neg (by unfold zc zy at *; omega), qA.bind_ok, qA.bind_ok]
    by_cases g2 : xk t (o + 32) 8 > zy
    · rw [if_pos (by unfold zc zy at *; omega), if_pos (Or.inr g2)]; rfl
    · rw [if_neg (by unfold zc zy at *; omega), if_neg (by omega), qA.bind_ok, qA.bind_ok, vZ]
      unfold zl.j1
      by_cases g4 : zc t (o + 4) 4 = 8
      · rw [if_pos g4, if_pos g4]
        simp only [uy]
        rw [zF (x := zc t (o + 32) 8) (by unfold zc; omega) (by unfold zc zy at *; omega)]
      · rw [if_neg g4, if_neg g4]
        have e1 : zc t (o + 24) 8 = ((xk t (o + 24) 8 : Nat) : Int) := rfl
        have e2 : zc t (o + 32) 8 = ((xk t (o + 32) 8 : Nat) : Int) := rfl
        rw [e1, e2, ub K s hs _ _ h1 h2]
        by_cases g3 : xk t (o + 24) 8 + xk t (o + 32) 8 ≤ s.length
        · rw [if_pos g3, if_pos g3, qA.bind_ok]; rfl
        · rw [if_neg g3, if_neg g3]; rfl
end
end Go.Pn

set_option maxRecDepth 100000
namespace Go.Pn
open Go Go.Sl Go.Pu Go.Mo
def v8 (x : UInt8) : Bool := !(nz x)
theorem vR (x : UInt8) : (((x.toNat : Nat) : Int) == (0 : Int)) = v8 x := by
  unfold v8 nz
  rw [Bool.not_not, Bool.eq_iff_iff, beq_iff_eq, beq_iff_eq, ← UInt8.toNat_inj]
  exact Int.ofNat_inj
theorem YD (K : Nat) : ∀ (k : Nat) (s : List UInt8), s.length < k → s.length < 140737488355328 → ∃ r, qW.l1 K 0 k s = .ok r ∧ r.all v8 = s.all v8 ∧ r.length ≤ s.length := by
  intro k
  induction k with
  | zero => intro s h _; omega
  | succ k ih =>
    intro s hk hs
    rw [qW.l1]
    cases hl : s.reverse with
    | nil =>
      have : s = [] := by simpa using hl
      subst this
      exact ⟨[], rfl, rfl, Nat.le_refl _⟩
    | cons x r =>
      have e : s = r.reverse ++ [x] := by have := congrArg List.reverse hl; simpa using this
      have hlen : s.length = r.length + 1 := by rw [e]; simp
      have hd : decide ((s.length : Int) > 0) = true := decide_eq_true (by omega)
      have hw : qM ((s.length : Int) - 1) = ((r.length : Nat) : Int) := by rw [q8 (by omega) (by omega)]; omega
      have hr : rd s ((r.length : Nat) : Int) = x := by rw [e]; exact jJ r.reverse x [] (by simp)
      rw [hd, hw, z9 (by omega), hr, vR]
      rw [show imp true true true = true from rfl, qF, Bool.true_and]
      cases hx : v8 x with
      | true =>
        have hsub : sub s 0 ((r.length : Nat) : Int) = r.reverse := by
          rw [yW, e]
          have : r.length = r.reverse.length := by simp
          rw [this, List.take_left]
        rw [cond_true, xj (by omega) (by omega) (by omega), qF, zo, hsub]
        obtain ⟨q, h1, h2, h3⟩ := ih r.reverse (by simp; omega) (by simp; omega)
        refine ⟨q, h1, ?_, by simp at h3; omega⟩
        rw [h2, e, List.all_append]; simp [hx]
      | false => exact ⟨s, rfl, rfl, Nat.le_refl _⟩
theorem YC (K : Nat) : ∀ (k : Nat) (s : List UInt8), s.length < k → s.length < 140737488355328 → ∃ r, qX.l1 K 0 k s = .ok r ∧ (r == ([] : List UInt8)) = s.all v8 := by
  intro k
  induction k with
  | zero => intro s h _; omega
  | succ k ih =>
    intro s hk hs
    rw [qX.l1]
    cases s with
    | nil => exact ⟨[], rfl, rfl⟩
    | cons x s =>
      simp only [List.length_cons] at hk hs
      have hd : decide ((((x :: s).length : Nat) : Int) > 0) = true := decide_eq_true (by simp only [List.length_cons]; omega)
      have hr : rd (x :: s) 0 = x := rfl
      have hi : inb (0 : Int) (x :: s).length = true := XN (by omega) (by simp only [List.length_cons]; omega)
      rw [hd, hi, hr, vR, show imp true true true = true from rfl, qF, Bool.true_and, List.all_cons]
      cases hx : v8 x with
      | true =>
        have hsub : sub (x :: s) 1 (((x :: s).length : Nat) : Int) = s := by
          have := Qo (x :: s) 1
          exact this
        rw [cond_true, xj (by omega) (by simp only [List.length_cons]; omega) (by omega), qF, zo, hsub, Bool.true_and]
        exact ih s (by omega) (by omega)
      | false => exact ⟨x :: s, rfl, rfl⟩
theorem YE (K : Nat) (s : List UInt8) (hK : s.length < K) (hs : s.length < 140737488355328) : ∃ r, xq.m K s = .ok r ∧ (r == ([] : List UInt8)) = s.all v8 := by
  unfold xq.m qW.m qX.m
  rw [Bool.or_false]
  cases s with
  | nil => exact ⟨[], rfl, rfl⟩
  | cons x s =>
    obtain ⟨r, h1, h2, h3⟩ := YD K K (x :: s) hK hs
    obtain ⟨q, h4, h5⟩ := YC K K r (by omega) (by omega)
    rw [show ((x :: s) == ([] : List UInt8)) = false from rfl, cond_false, show inb (0 : Int) ([0] : List UInt8).length = true from rfl, qF, h1, qA.bind_ok, h4, qA.bind_ok]
    exact ⟨q, rfl, by rw [h5, h2]⟩
def xW (d : List UInt8) (a : Nat) : Option (List UInt8) :=
  if a ≤ d.length ∧ Zj (d.drop a) = false ∧ ((d.drop a).takeWhile nz).length ≤ 200 then some ((d.drop a).takeWhile nz) else none
def zE (x : jg) (s : List UInt8) : jg := ⟨s, x.Type_, x.Flags_, x.Addr_, x.Data_, x.Size_, x.Link_, x.Info_, x.Align_, x.Each_⟩
def xG (d : List UInt8) : List jg → List Int → Option (List jg)
  | x :: l, n :: ns => (xW d n.toNat).bind fun s => (xG d l ns).map (zE x s :: ·)
  | _, _ => some []
theorem QR : ∀ s : List UInt8, Zj s = false → Lib.indexByte s 0 = ((s.takeWhile nz).length : Int) ∧ (s.takeWhile nz).length < s.length
  | [], h => by simp [Zj] at h
  | b :: s, h => by
    unfold Lib.indexByte
    unfold Zj at h
    rw [List.all_cons] at h
    rw [List.takeWhile_cons]
    cases hb : (b == 0) with
    | true =>
      have : nz b = false := by unfold nz; rw [hb]; rfl
      rw [this]; simp
    | false =>
      have hn : nz b = true := by unfold nz; rw [hb]; rfl
      rw [hn, Bool.true_and] at h
      obtain ⟨h1, h2⟩ := QR s h
      have h3 : (Lib.indexByte s 0 == -1) = false := beq_eq_false_iff_ne.2 (by omega)
      rw [hn, h3, h1]
      simp only [Bool.false_eq_true, if_false, if_true, List.length_cons]
      omega
theorem vt : ∀ s : List UInt8, s.take (s.takeWhile nz).length = s.takeWhile nz
  | [] => rfl
  | b :: s => by
    rw [List.takeWhile_cons]
    cases nz b with
    | true => simp only [if_true, List.length_cons, List.take_succ_cons, vt s]
    | false => simp
def ZI {α β : Type} (o : Option β) (e : Int) (f : β → qA α) : qA α :=
  match o with
  | none => .pan (XA e)
  | some b => f b
theorem XS (K : Nat) (d : List UInt8) (hd : d.length < 140737488355328) (a : Nat) (ha : a < 4294967296) : y4.m K d (a : Int) = ZI (xW d a) 3 .ok := by
  unfold y4.m zr.m xW
  rw [qE]
  by_cases h1 : a ≤ d.length
  · have hl : (d.drop a).length = d.length - a := by simp
    rw [if_neg (by omega), qA.bind_ok, xj (by omega) (by omega) (by omega), qF, Qo]
    unfold xS.m zG.m
    rw [Y0, qA.bind_ok, Zy]
    cases hz : Zj (d.drop a) with
    | true =>
      rw [Bool.not_true, cond_false, if_neg (by simp)]; rfl
    | false =>
      obtain ⟨h2, h3⟩ := QR _ hz
      rw [Bool.not_false, cond_true, h2, xj (by omega) (by omega) (by omega), qF, q8 (by omega) (by omega), xj (by omega) (by omega) (by omega), qF, zo, zo, qA.bind_ok, qA.bind_ok]
      simp only []
      rw [yW, vt, Bool.not_true, Bool.false_or, qE]
      by_cases h4 : ((d.drop a).takeWhile nz).length ≤ 200
      · rw [if_neg (by omega), if_pos ⟨h1, by trivial, h4⟩]; rfl
      · rw [if_pos (by omega), if_neg (fun h => h4 h.2.2)]; rfl
  · rw [if_pos (by omega), if_neg (fun h => h1 h.1)]; rfl
theorem Xe (l : List jg) (i : Nat) (x : jg) (s : List UInt8) (hx : l[i]? = some x) (j : Nat) : (rd (l.set i (zE x s)) (j : Int)).Data_ = (rd l (j : Int)).Data_ := by
  unfold rd
  simp only [Int.toNat_natCast, List.getD_eq_getElem?_getD, List.getElem?_set]
  by_cases h : i = j
  · subst h
    rw [if_pos rfl, hx]
    split
    · rfl
    · rename_i h2
      obtain ⟨h3, _⟩ := List.getElem?_eq_some_iff.1 hx
      exact absurd h3 h2
  · rw [if_neg h]
abbrev R7 := Int × Int × Int × Int × List vV × List jg × Int
def yx : Except Int uk → R7
  | .error e => (0, 0, 0, 0, [], [], e)
  | .ok m => (m.Type_, m.Machine_, m.Entry_, m.Flags_, m.Segments_, m.Sections_, 0)
def vu (ty ma en fl : Int) (sg : List vV) (l : List jg) (ns : List Int) : Except Int uk :=
  if (rd l ((l.length - 1 : Nat) : Int)).Type_ = 3 then
    match xG (rd l ((l.length - 1 : Nat) : Int)).Data_ l ns with
    | none => .error 3
    | some q => cond ((rd q ((l.length - 1 : Nat) : Int)).Name_ == uV) (.ok ⟨ty, ma, en, fl, sg, q.take (l.length - 1)⟩) (.error 3)
  else .error 3
def yg (s : List UInt8) : Bool :=
  !(s.take 16 == v6) || (zc s 20 4 != 1 || zc s 52 2 != 64 || zc s 54 2 != 56 || zc s 58 2 != 64) || (decide (zc s 60 2 < 2) || zc s 62 2 != zc s 60 2 - 1 || decide (zc s 56 2 > 1000) || decide (zc s 60 2 > 1002))
def XC (s : List UInt8) (sg : List vV) : Except Int uk :=
  cond (((s.drop (xk s 40 8)).take 64).all v8) ((x3 s s (xk s 40 8 + 64) (xk s 60 2 - 1) [] []).bind fun q => vu (zc s 16 2) (zc s 18 2) (zc s 24 8) (zc s 48 4) sg q.1 q.2) (.error 3)
def xU (s : List UInt8) : Except Int uk :=
  if s.length < 64 then .error 2 else cond (yg s) (.error 3) <|
    if (0 < xk s 56 2 ∧ ¬ xk s 32 8 + 56 * xk s 56 2 ≤ s.length) ∨ ¬ xk s 40 8 + 64 * xk s 60 2 ≤ s.length then .error 2
    else (yb s s (xk s 32 8) (xk s 56 2) []).bind fun sg => XC s sg
def XV (m : uk) : qA R7 := .ok (m.Type_, m.Machine_, m.Entry_, m.Flags_, m.Segments_, m.Sections_, 0)
theorem jS (d : List UInt8) : ∀ (l : List jg) (ns : List Int) (q : List jg), l.length = ns.length → xG d l ns = some q → q.length = l.length
  | [], [], q, _, h => by simp [xG] at h; subst h; rfl
  | x :: l, n :: ns, q, hl, h => by
    unfold xG at h
    cases h1 : xW d n.toNat with
    | none => rw [h1] at h; simp at h
    | some s =>
      cases h2 : xG d l ns with
      | none => rw [h1, h2] at h; simp at h
      | some r =>
        rw [h1, h2] at h; simp at h; subst h
        rw [List.length_cons, List.length_cons, jS d l ns r (by simpa using hl) h2]
section
variable (K : Nat) (hK : 200000 < K) (s : List UInt8) (hs : s.length < 140737488355328) (ty ma en fl : Int) (sg : List vV)
theorem XT (ns : List Int) (hns : ∀ n ∈ ns, 0 ≤ n ∧ n < 4294967296) (last : Nat) (d : List UInt8) (hd : d.length < 140737488355328) (hlen : ns.length < 140737488355328) (hlast : last + 1 = ns.length) :
    ∀ (k : Nat) (D T : List jg) (N1 N2 : List Int), N1 ++ N2 = ns → D.length = N1.length → T.length = N2.length → N2.length < k → (rd (D ++ T) (last : Int)).Data_ = d →
    qu.l8 K ty ma en fl sg ns (last : Int) k (D ++ T) (N1.length : Int) = ZI (xG d T N2) 3 fun q => qu.j9 K ty ma en fl sg (last : Int) (D ++ q) := by
  intro k
  induction k with
  | zero => intro D T N1 N2 _ _ _ h _; omega
  | succ k ih =>
    intro D T N1 N2 h hD hT hk hdat
    have hl : N1.length + N2.length = ns.length := by rw [← h]; simp
    rw [qu.l8, qE]
    cases N2 with
    | nil =>
      simp only [List.length_nil] at hl hT
      have : T = [] := List.eq_nil_of_length_eq_zero hT
      subst this
      rw [if_neg (by omega)]; rfl
    | cons n N2 =>
      cases T with
      | nil => simp at hT
      | cons x T =>
        simp only [List.length_cons] at hl hk hT
        have e1 : rd ns (N1.length : Int) = n := by rw [← h]; exact jJ N1 n N2 rfl
        have e2 : rd (D ++ x :: T) (N1.length : Int) = x := jJ D x T (by rw [hD])
        have e3 : qM ((N1.length : Int) + 1) = ((N1 ++ [n]).length : Int) := by rw [q8 (by omega) (by omega)]; simp
        have hn := hns n (by rw [← h]; simp)
        have hlx : (D ++ x :: T).length = ns.length := by rw [List.length_append, List.length_cons]; omega
        obtain ⟨z, rfl⟩ : ∃ z : Nat, n = (z : Int) := ⟨n.toNat, by omega⟩
        rw [if_pos (by omega), z9 (by omega), qF, zo, e1, z9 (by omega), qF, hdat, e2, XS K d hd z (by omega)]
        unfold xG
        simp only [Int.toNat_natCast]
        cases ha : xW d z with
        | none => rfl
        | some sn =>
          have eset : (D ++ x :: T).set N1.length (zE x sn) = (D ++ [zE x sn]) ++ T := by
            have := QI D x (zE x sn) T (i := ((N1.length : Nat) : Int)) (by rw [hD])
            rw [Int.toNat_natCast] at this
            rw [this]; simp
          have hdat' : (rd (D ++ [zE x sn] ++ T) (last : Int)).Data_ = d := by
            rw [← eset, Xe (D ++ x :: T) N1.length x sn (by rw [← hD]; simp) last, hdat]
          have := ih (D ++ [zE x sn]) T (N1 ++ [(z : Int)]) N2 (by rw [← h]; simp) (by simp [hD]) (by omega) (by omega) hdat'
          simp only [ZI, qA.bind_ok, Option.bind_some]
          rw [z9 (by omega), qF, zo]
          rw [show qa.mk sn x.Type_ x.Flags_ x.Addr_ x.Data_ x.Size_ x.Link_ x.Info_ x.Align_ x.Each_ = zE x sn from rfl, eset, e3, this]
          cases xG d T N2 with
          | none => rfl
          | some q => simp [ZI]
include hK in
theorem YY (l : List jg) (ns : List Int) (hns : ∀ n ∈ ns, 0 ≤ n ∧ n < 4294967296) (hl : l.length = ns.length) (h1 : 1 ≤ l.length) (h2 : l.length ≤ 1002) (hd : ∀ x ∈ l, x.Data_.length < 140737488355328) :
    qu.j7 K ty ma en fl sg l ns = uy (vu ty ma en fl sg l ns) XV := by
  have hm : rd l ((l.length - 1 : Nat) : Int) ∈ l := by rw [QH (by omega)]; exact List.getElem_mem _
  have ew : qM ((l.length : Int) - 1) = ((l.length - 1 : Nat) : Int) := by rw [q8 (by omega) (by omega)]; omega
  unfold qu.j7 zr.m vu
  rw [zo, ew, z9 (by omega), qF, j6]
  by_cases h3 : (rd l ((l.length - 1 : Nat) : Int)).Type_ = 3
  · rw [if_pos h3, if_pos h3, qA.bind_ok]
    have := XT K ty ma en fl sg ns hns (l.length - 1) _ (hd _ hm) (by omega) (by omega) K [] l [] ns rfl rfl hl (by omega) rfl
    rw [List.nil_append, show (([] : List Int).length : Int) = 0 from rfl] at this
    rw [this]
    cases hq : xG (rd l ((l.length - 1 : Nat) : Int)).Data_ l ns with
    | none => rfl
    | some q =>
      have hql := jS _ l ns q hl hq
      simp only [ZI, List.nil_append]
      unfold qu.j9 zr.m
      rw [z9 (by omega), qF, show ([46, 115, 104, 115, 116, 114, 116, 97, 98] : List UInt8) = uV from rfl]
      cases (rd q ((l.length - 1 : Nat) : Int)).Name_ == uV with
      | false => rfl
      | true =>
        rw [Bool.not_true, cond_false, qA.bind_ok, xj (by omega) (by omega) (by omega), qF, zo, yW]; rfl
  · rw [if_neg h3, if_neg h3]; rfl
end
end Go.Pn

set_option maxRecDepth 100000
namespace Go.Pn
open Go Go.Sl Go.Pu Go.Mo
theorem QZ (K : Nat) (b : Bool) (e : Int) : zr.m K b e = cond b (.pan (XA e)) (.ok ()) := rfl
section
variable (K : Nat) (hK : 200000 < K) (s : List UInt8) (hs : s.length < 140737488355328)
include hK hs
theorem Yl (m0 : uk) (h64 : ¬ s.length < 64) : xE.m K ⟨⟨s, 0⟩⟩ m0 = cond (yg s) (.pan (XA 3)) (.ok (zc s 32 8, zc s 40 8, zc s 56 2, zc s 60 2, zc s 16 2, zc s 18 2, zc s 24 8, zc s 48 4)) := by
  have hp := ub K s hs 0 64 (by decide) (by decide)
  rw [if_pos (by omega)] at hp
  have hp' : q6.m K ⟨⟨s, 0⟩⟩ (0 : Int) (64 : Int) = .ok ((s.drop 0).take 64, 0) := hp
  have ht : ((s.drop 0).take 64).length = 64 := by simp; omega
  have e16 : sub ((s.drop 0).take 64) 0 16 = s.take 16 := by
    have := yW ((s.drop 0).take 64) 16
    rw [show ((16 : Nat) : Int) = 16 from rfl] at this
    rw [this, List.drop_zero, List.take_take]; rfl
  have nm : ∀ o w : Nat, o + w ≤ 64 → zc ((s.drop 0).take 64) o w = zc s o w := fun o w h => by rw [xn s 0 64 o w h, Nat.zero_add]
  unfold xE.m z6.m
  rw [hp', qA.bind_ok]
  simp only [qA.bind_ok]
  rw [xj (by decide) (by decide) (by rw [ht]; decide), qF, e16, show ([127, 69, 76, 70, 2, 1, 1, 0, 0, 0, 0, 0, 0, 0, 0, 0] : List UInt8) = v6 from rfl]
  unfold yg
  generalize (s.drop 0).take 64 = t at ht nm
  have ht2 : t.length < 140737488355328 := by omega
  have hh : ∀ o : Nat, o + 2 ≤ 64 → zt.m K ⟨⟨t, 0⟩, (o : Int)⟩ = .ok (zc s o 2, ((o + 2 : Nat) : Int)) := fun o h => by rw [hP (by omega) ht2 (by decide) (by decide) (by omega), nm o 2 h]
  have hw : ∀ o : Nat, o + 4 ≤ 64 → zC.m K ⟨⟨t, 0⟩, (o : Int)⟩ = .ok (zc s o 4, ((o + 4 : Nat) : Int)) := fun o h => by rw [wP (by omega) ht2 (by decide) (by decide) (by omega), nm o 4 h]
  have hx : ∀ o : Nat, o + 8 ≤ 64 → qZ.m K ⟨⟨t, 0⟩, (o : Int)⟩ = .ok (zc s o 8, ((o + 8 : Nat) : Int)) := fun o h => by rw [xP (by omega) ht2 (by decide) (by decide) (by omega), nm o 8 h]
  have a1 : zt.m K ⟨⟨t, 0⟩, 16⟩ = .ok (zc s 16 2, ((18 : Nat) : Int)) := hh 16 (by decide)
  have k1 := vO s 60 2
  have k2 := Xa s 60
  cases (s.take 16 == v6) with
  | false => rfl
  | true =>
    simp only [QZ, Bool.not_true, cond_false, qA.bind_ok, Bool.false_or]
    rw [a1, qA.bind_ok]
    simp only []
    rw [hh 18 (by decide), qA.bind_ok]
    simp only []
    rw [hw (18 + 2) (by decide), qA.bind_ok]
    simp only []
    rw [hx (18 + 2 + 4) (by decide), qA.bind_ok]
    simp only []
    rw [hx (18 + 2 + 4 + 8) (by decide), qA.bind_ok]
    simp only []
    rw [hx (18 + 2 + 4 + 8 + 8) (by decide), qA.bind_ok]
    simp only []
    rw [hw (18 + 2 + 4 + 8 + 8 + 8) (by decide), qA.bind_ok]
    simp only []
    rw [hh (18 + 2 + 4 + 8 + 8 + 8 + 4) (by decide), qA.bind_ok]
    simp only []
    rw [hh (18 + 2 + 4 + 8 + 8 + 8 + 4 + 2) (by decide), qA.bind_ok]
    simp only []
    rw [hh (18 + 2 + 4 + 8 + 8 + 8 + 4 + 2 + 2) (by decide), qA.bind_ok]
    simp only []
    rw [hh (18 + 2 + 4 + 8 + 8 + 8 + 4 + 2 + 2 + 2) (by decide), qA.bind_ok]
    simp only []
    rw [hh (18 + 2 + 4 + 8 + 8 + 8 + 4 + 2 + 2 + 2 + 2) (by decide), qA.bind_ok]
    simp only []
    rw [hh (18 + 2 + 4 + 8 + 8 + 8 + 4 + 2 + 2 + 2 + 2 + 2) (by decide), qA.bind_ok]
    simp only [Nat.reduceAdd]
    rw [q8 (by omega) (by omega)]
    cases (zc s 20 4 != 1 || zc s 52 2 != 64 || zc s 54 2 != 56 || zc s 58 2 != 64) with
    | true => rfl
    | false =>
      rw [cond_false, qA.bind_ok, Bool.false_or]
      cases (decide (zc s 60 2 < 2) || zc s 62 2 != zc s 60 2 - 1 || decide (zc s 56 2 > 1000) || decide (zc s 60 2 > 1002)) <;> rfl
end
section
variable (K : Nat) (hK : 200000 < K) (s : List UInt8) (hs : s.length < 140737488355328) (ty ma en fl : Int)
theorem uI {s t : List UInt8} {o : Nat} {x : jg × Int} (h : vo s t o = .ok x) : x.1.Data_.length ≤ s.length ∧ 0 ≤ x.2 ∧ x.2 < 4294967296 := by
  have h0 := vO t o 4
  have h4 := Qg t o
  unfold vo at h
  split at h
  · cases h
  · split at h
    · cases h; exact ⟨Nat.zero_le _, h0, h4⟩
    · split at h
      · cases h
        refine ⟨?_, h0, h4⟩
        simp only [List.length_take, List.length_drop]; omega
      · cases h
include hK hs in
theorem Yw (kN : Nat) (hk2 : kN ≤ 1002) (t : List UInt8) (base : Int) (hb0 : 0 ≤ base) (hb1 : base < 140737488355328) (ht : t.length = 64 * kN) (sg : List vV) : ∀ (j k i : Nat) (l : List jg) (ns : List Int), i + j + 1 = kN → j < k → l.length = i → ns.length = i → 1 ≤ i + j →
    (∀ n ∈ ns, 0 ≤ n ∧ n < 4294967296) → (∀ x ∈ l, x.Data_.length < 140737488355328) →
    qu.l6 K s (kN : Int) ty ma en fl t base sg k l ((64 + 64 * i : Nat) : Int) ns (i : Int) = uy (x3 s t (64 + 64 * i) j l ns) fun q => uy (vu ty ma en fl sg q.1 q.2) XV := by
  intro j
  induction j with
  | zero =>
    intro k i l ns hij hk hl hn h1 hns hd
    obtain ⟨k, rfl⟩ : ∃ m, k = m + 1 := ⟨k - 1, by omega⟩
    rw [qu.l6, q8 (by omega) (by omega), qE, if_neg (by omega), YY K hK ty ma en fl sg l ns hns (by omega) (by omega) (by omega) hd]
    rfl
  | succ j ih =>
    intro k i l ns hij hk hl hn h1 hns hd
    obtain ⟨k, rfl⟩ : ∃ m, k = m + 1 := ⟨k - 1, by omega⟩
    rw [qu.l6, q8 (x := (kN : Int) - 1) (by omega) (by omega), qE, if_pos (by omega)]
    rw [Y6 (by omega) (by omega) hb0 hb1 s hs (by omega), u5, x3, vf]
    cases hq : vo s t (64 + 64 * i) with
    | error e => rfl
    | ok x =>
      obtain ⟨q1, q2, q3⟩ := uI hq
      have e3 : qM ((i : Int) + 1) = ((i + 1 : Nat) : Int) := Qp i (by omega)
      have hname : x.1.Name_ = [] := by
        unfold vo at hq
        split at hq
        · cases hq
        · split at hq
          · cases hq; rfl
          · split at hq
            · cases hq; rfl
            · cases hq
      have eta : qa.mk [] x.1.Type_ x.1.Flags_ x.1.Addr_ x.1.Data_ x.1.Size_ x.1.Link_ x.1.Info_ x.1.Align_ x.1.Each_ = x.1 := by rw [← hname]
      simp only [uy, qA.bind_ok, zo]
      rw [y1 (by simp only [List.length_cons, List.length_nil]; omega), qF, y1 (by simp only [List.length_cons, List.length_nil]; omega), qF, e3, eta]
      have := ih k (i + 1) (l ++ [x.1]) (ns ++ [x.2]) (by omega) (by omega) (by simp [hl]) (by simp [hn]) (by omega) (by
        intro n hn2
        rcases List.mem_append.1 hn2 with h | h
        · exact hns n h
        · rw [List.mem_singleton.1 h]; exact ⟨q2, q3⟩) (by
        intro y hy
        rcases List.mem_append.1 hy with h | h
        · exact hd y h
        · rw [List.mem_singleton.1 h]; omega)
      rw [show 64 + 64 * i + 64 = 64 + 64 * (i + 1) by omega]
      exact this
include hK hs in
theorem ZO (kN : Nat) (hk0 : 2 ≤ kN) (hk2 : kN ≤ 1002) (a : Nat) (ha : a + 64 * kN ≤ s.length) (sg : List vV) :
    qu.j5 K s (kN : Int) ty ma en fl ((s.drop a).take (64 * kN)) (a : Int) sg = uy (cond (((s.drop a).take 64).all v8) ((x3 s s (a + 64) (kN - 1) [] []).bind fun q => vu ty ma en fl sg q.1 q.2) (.error 3)) XV := by
  have ht : ((s.drop a).take (64 * kN)).length = 64 * kN := by simp; omega
  have e64 : sub ((s.drop a).take (64 * kN)) 0 64 = (s.drop a).take 64 := by
    have := yW ((s.drop a).take (64 * kN)) 64
    rw [show ((64 : Nat) : Int) = 64 from rfl] at this
    rw [this, List.take_take, Nat.min_eq_left (by omega)]
  have hl : ((s.drop a).take 64).length = 64 := by simp; omega
  unfold qu.j5 z6.m
  rw [qA.bind_ok, xj (by decide) (by decide) (by rw [ht]; omega), qF, e64]
  obtain ⟨r, h1, h2⟩ := YE K ((s.drop a).take 64) (by omega) (by omega)
  rw [h1, qA.bind_ok, h2, QZ]
  cases ((s.drop a).take 64).all v8 with
  | false => rfl
  | true =>
    have := Yw K hK s hs ty ma en fl kN hk2 ((s.drop a).take (64 * kN)) (a : Int) (by omega) (by omega) ht sg (kN - 1) K 0 [] [] (by omega) (by omega) rfl rfl (by omega) (fun _ h => (List.not_mem_nil h).elim) (fun _ h => (List.not_mem_nil h).elim)
    rw [Bool.not_true, cond_false, qA.bind_ok, cond_true, vf, ← uJ s a (64 * kN) (kN - 1) 64 [] [] (by omega)]
    exact this
include hK hs in
theorem Yy (kN : Nat) (hk0 : 2 ≤ kN) (hk2 : kN ≤ 1002) (a : Nat) (ha : a + 64 * kN ≤ s.length) (n : Nat) (hn : n ≤ 1000) (t : List UInt8) (base : Int) (hb0 : 0 ≤ base) (hb1 : base < 140737488355328) (ht : t.length = 56 * n) :
    ∀ (j k i : Nat) (l : List vV), i + j = n → j < k → l.length = i →
    qu.l4 K s (n : Int) (kN : Int) ty ma en fl ((s.drop a).take (64 * kN)) (a : Int) k l (some ⟨⟨t, base⟩, ((56 * i : Nat) : Int)⟩) (i : Int) =
      uy (yb s t (56 * i) j l) fun sg => uy (cond (((s.drop a).take 64).all v8) ((x3 s s (a + 64) (kN - 1) [] []).bind fun q => vu ty ma en fl sg q.1 q.2) (.error 3)) XV := by
  intro j
  induction j with
  | zero =>
    intro k i l hij hk hl
    obtain ⟨k, rfl⟩ : ∃ m, k = m + 1 := ⟨k - 1, by omega⟩
    rw [qu.l4, qE, if_neg (by omega), ZO K hK s hs ty ma en fl kN hk0 hk2 a ha l]
    rfl
  | succ j ih =>
    intro k i l hij hk hl
    obtain ⟨k, rfl⟩ : ∃ m, k = m + 1 := ⟨k - 1, by omega⟩
    rw [qu.l4, qE, if_pos (by omega), ZS]
    rw [Y8 (by omega) (by omega) hb0 hb1 s hs (by omega), u5, yb, vf]
    cases hq : ui s t (56 * i) with
    | error e => rfl
    | ok x =>
      have e3 : qM ((i : Int) + 1) = ((i + 1 : Nat) : Int) := Qp i (by omega)
      simp only [uy, qA.bind_ok, zo]
      rw [y1 (by simp only [List.length_cons, List.length_nil]; omega), qF, e3]
      have := ih k (i + 1) (l ++ [x]) (by omega) (by omega) (by simp [hl])
      rw [show 56 * i + 56 = 56 * (i + 1) by omega]
      exact this
end
theorem Q5 (K : Nat) (r : Except Int uk) : (uy r XV).catch (qu.h1 K) = .ok (yx r) := by
  cases r with
  | error e =>
    show qu.h1 K (XA e) = _
    unfold qu.h1 XA
    rw [Zk]; rfl
  | ok m => rfl
def jG (s : List UInt8) (ty ma en fl : Int) (n kN p a : Nat) : Except Int uk :=
  if (0 < n ∧ ¬ p + 56 * n ≤ s.length) ∨ ¬ a + 64 * kN ≤ s.length then .error 2
  else (yb s s p n []).bind fun sg => cond (((s.drop a).take 64).all v8) ((x3 s s (a + 64) (kN - 1) [] []).bind fun q => vu ty ma en fl sg q.1 q.2) (.error 3)
theorem Yg (K : Nat) (hK : 200000 < K) (s : List UInt8) (hs : s.length < 140737488355328) (ty ma en fl : Int) (n kN p a : Nat) (hk0 : 2 ≤ kN) (hk2 : kN ≤ 1002) (hn : n ≤ 1000) (hp8 : p < 18446744073709551616) (ha8 : a < 18446744073709551616) :
    (cond (decide ((n : Int) > (0 : Int))) ((q6.m K ⟨⟨s, 0⟩⟩ (p : Int) (wr .u64 (qM ((56 : Int) * (n : Int))))).bind fun (t, b) => qu.j3 K s (a : Int) (n : Int) (kN : Int) ty ma en fl (some ⟨⟨t, b⟩, 0⟩)) (qu.j3 K s (a : Int) (n : Int) (kN : Int) ty ma en fl none)) = uy (jG s ty ma en fl n kN p a) XV := by
  have eseg : wr .u64 (qM ((56 : Int) * (n : Int))) = ((56 * n : Nat) : Int) := by
    rw [q8 (by omega) (by omega), z7 (by omega) (by omega)]; omega
  have esec : wr .u64 (qM ((64 : Int) * (kN : Int))) = ((64 * kN : Nat) : Int) := by
    rw [q8 (by omega) (by omega), z7 (by omega) (by omega)]; omega
  unfold jG
  rw [eseg, qE, ub K s hs _ _ hp8 (by omega)]
  by_cases h0 : 0 < n
  · rw [if_pos (by omega)]
    by_cases h1 : p + 56 * n ≤ s.length
    · rw [if_pos h1, qA.bind_ok]
      simp only []
      unfold qu.j3
      rw [esec, ub K s hs _ _ ha8 (by omega)]
      by_cases h2 : a + 64 * kN ≤ s.length
      · rw [if_pos h2, if_neg (by omega), qA.bind_ok, vf]
        simp only []
        have := Yy K hK s hs ty ma en fl _ hk0 hk2 _ h2 _ hn ((s.drop p).take (56 * n)) (p : Int) (by omega) (by omega) (by simp; omega) n K 0 [] (by omega) (by omega) rfl
        rw [show ((56 * 0 : Nat) : Int) = 0 from rfl, uL s _ _ _ 0 [] (by omega), Nat.add_zero] at this
        exact this
      · rw [if_neg h2, if_pos (Or.inr h2)]; rfl
    · rw [if_neg h1, if_pos (Or.inl ⟨h0, h1⟩)]; rfl
  · rw [if_neg (by omega)]
    unfold qu.j3
    rw [esec, ub K s hs _ _ ha8 (by omega)]
    by_cases h2 : a + 64 * kN ≤ s.length
    · rw [if_pos h2, if_neg (by omega), qA.bind_ok]
      obtain rfl : n = 0 := by omega
      obtain ⟨K', rfl⟩ : ∃ q, K = q + 1 := ⟨K - 1, by omega⟩
      simp only []
      rw [qu.l4, qE, if_neg (by omega), yb, ZO (K' + 1) hK s hs ty ma en fl _ hk0 hk2 _ h2 []]
      rfl
    · rw [if_neg h2, if_pos (Or.inr h2)]; rfl
theorem ue (s : List UInt8) : xU s = if s.length < 64 then .error 2 else cond (yg s) (.error 3) (jG s (zc s 16 2) (zc s 18 2) (zc s 24 8) (zc s 48 4) (xk s 56 2) (xk s 60 2) (xk s 32 8) (xk s 40 8)) := by
  unfold xU jG XC; rfl
theorem QA {s : List UInt8} (hb : yg s = false) : 2 ≤ xk s 60 2 ∧ xk s 60 2 ≤ 1002 ∧ xk s 56 2 ≤ 1000 := by
  unfold yg at hb
  simp only [Bool.or_eq_false_iff, decide_eq_false_iff_not] at hb
  obtain ⟨_, ⟨⟨h1, _⟩, h2⟩, h3⟩ := hb
  unfold zc at h1 h2 h3; omega
theorem JB (K : Nat) (hK : 200000 < K) (s : List UInt8) (hs : s.length < 140737488355328) : qu.j2 K s = uy (xU s) XV := by
  rw [ue]
  unfold qu.j2 uX.m
  rw [qA.bind_ok]
  by_cases h64 : s.length < 64
  · have hp := ub K s hs 0 64 (by decide) (by decide)
    rw [if_neg (by omega)] at hp
    have hp' : q6.m K ⟨⟨s, 0⟩⟩ (0 : Int) (64 : Int) = .pan (XA 2) := hp
    rw [if_pos h64]
    unfold xE.m
    rw [hp']; rfl
  · rw [if_neg h64, Yl K hK s hs _ h64]
    cases hb : yg s with
    | true => rfl
    | false =>
      obtain ⟨hk0, hk2, hn⟩ := QA hb
      rw [cond_false, cond_false, qA.bind_ok]
      exact Yg K hK s hs _ _ _ _ _ _ _ _ hk0 hk2 hn (x5 s 32 (by decide)) (x5 s 40 (by decide))
theorem ZJ (K : Nat) (hK : 200000 < K) (s : List UInt8) (hs : s.length < 140737488355328) : qu.m K s = .ok (yx (xU s)) := by
  unfold qu.m
  rw [JB K hK s hs, Q5]
end Go.Pn

set_option maxRecDepth 100000
namespace Go.Pn
open Go Go.Sl Go.Pu Go.Mo
theorem vP {K : Nat} (hK : 8 < K) {s : List UInt8} (hs : s.length < 140737488355328) {o w : Nat} (hw : v7 w) (h : o + w ≤ s.length) : qd.m K s (o : Int) (w : Int) = .ok (zc s o w) := by
  unfold qd.m
  rw [ZM K s o w hw hs (by omega) hK, qA.bind_ok, vI, if_pos h]; rfl
theorem vU (K : Nat) (s : List UInt8) (hs : s.length < 140737488355328) (a n : Nat) (hn : n < 18446744073709551616) : zb.m K s (a : Int) (n : Int) = .ok (decide (a + n ≤ s.length)) := by
  unfold zb.m
  rw [zo, z7 (x := (s.length : Int)) (by omega) (by omega)]
  by_cases h : a ≤ s.length
  · rw [z7 (x := (s.length : Int) - (a : Int)) (by omega) (by omega), decide_eq_true (show (a : Int) ≤ s.length by omega), Bool.true_and]
    congr 1
    rw [Bool.eq_iff_iff, decide_eq_true_eq, decide_eq_true_eq]; omega
  · rw [decide_eq_false (show ¬ (a : Int) ≤ s.length by omega), Bool.false_and]
    congr 1
    rw [decide_eq_false (by omega)]
theorem ZK (s : List UInt8) (a w : Nat) (h : a + w ≤ s.length) : ((s.drop a).take w).length = w := by simp; omega
def Z0 {α β : Type} (r : Except Int β) (f : Int → qA α) (g : β → qA α) : qA α :=
  match r with
  | .error e => f e
  | .ok b => g b
theorem u4 {α β γ : Type} (r : Except Int β) (k : β → Except Int γ) (f : Int → qA α) (g : γ → qA α) : Z0 (r.bind k) f g = Z0 r f fun b => Z0 (k b) f g := by cases r <;> rfl
theorem X8 {x y n : Nat} (h : x + y ≤ n) (hn : n < 140737488355328) : wr .u64 ((x : Int) + (y : Int)) = ((x + y : Nat) : Int) := by rw [z7 (by omega) (by omega)]; omega
theorem Xn {x y n : Nat} (h : x + y ≤ n) : subok (x : Int) ((x + y : Nat) : Int) n = true := xj (by omega) (by omega) (by omega)
theorem Zv {n : Nat} (h : ¬ n > zy) : ¬ (n : Int) > (1099511627776 : Int) := by unfold zy at h; omega
theorem Zw {n : Nat} (h : n > zy) : (n : Int) > (1099511627776 : Int) := by unfold zy at h; omega
theorem Yi {n : Nat} (h : ¬ n > zy) : wr .i64 (n : Int) = (n : Int) := by unfold zy at h; exact zF (by omega) (by omega)
section
variable (K : Nat) (hK : 200000 < K) (s : List UInt8) (hs : s.length < 140737488355328)
include hK hs
theorem X6 (a n : Nat) (h : a + 56 * n ≤ s.length) (hn : n ≤ 1000) : ∀ (j k i : Nat) (l : List vV), i + j = n → j < k → l.length = i →
    qP.l1 K s (a : Int) (n : Int) k l (i : Int) = Z0 (yb s s (a + 56 * i) j l) (fun e => .ok ([], e)) fun q => .ok (q, 0) := by
  intro j
  induction j with
  | zero =>
    intro k i l hij hk hl
    obtain ⟨k, rfl⟩ : ∃ m, k = m + 1 := ⟨k - 1, by omega⟩
    rw [qP.l1, qE, if_neg (by omega)]; rfl
  | succ j ih =>
    intro k i l hij hk hl
    obtain ⟨k, rfl⟩ : ∃ m, k = m + 1 := ⟨k - 1, by omega⟩
    have e1 : qM ((a : Int) + qM ((56 : Int) * (i : Int))) = ((a + 56 * i : Nat) : Int) := by rw [q8 (x := (56 : Int) * _) (by omega) (by omega), q8 (by omega) (by omega)]; omega
    have e2 : qM (((a + 56 * i : Nat) : Int) + 56) = ((a + 56 * i + 56 : Nat) : Int) := by rw [q8 (by omega) (by omega)]; omega
    have hm := Qn s (a + 56 * i) 56 0 (by decide)
    have hl56 := ZK s (a + 56 * i) 56 (by omega)
    rw [qP.l1, qE, if_pos (by omega), e1, e2, xj (by omega) (by omega) (by omega), qF, zo, vr, Nat.add_sub_cancel_left]
    rw [Nat.add_zero] at hm
    rw [yb, u4, ← hm]
    generalize (s.drop (a + 56 * i)).take 56 = t at hl56
    have n8 : ∀ o : Nat, o + 8 ≤ 56 → qd.m K t (o : Int) 8 = .ok (zc t o 8) := fun o ho => vP (w := 8) (by omega) (by omega) w8 (by omega)
    have n4 : ∀ o : Nat, o + 4 ≤ 56 → qd.m K t (o : Int) 4 = .ok (zc t o 4) := fun o ho => vP (w := 4) (by omega) (by omega) w4 (by omega)
    have a0 : qd.m K t 0 4 = .ok (zc t 0 4) := n4 0 (by decide)
    have a4 : qd.m K t 4 4 = .ok (zc t 4 4) := n4 4 (by decide)
    have a8 : qd.m K t 8 8 = .ok (zc t 8 8) := n8 8 (by decide)
    have a16 : qd.m K t 16 8 = .ok (zc t 16 8) := n8 16 (by decide)
    have a24 : qd.m K t 24 8 = .ok (zc t 24 8) := n8 24 (by decide)
    have a32 : qd.m K t 32 8 = .ok (zc t 32 8) := n8 32 (by decide)
    have a40 : qd.m K t 40 8 = .ok (zc t 40 8) := n8 40 (by decide)
    have a48 : qd.m K t 48 8 = .ok (zc t 48 8) := n8 48 (by decide)
    have b8 := x5 t 8 (w := 8) (by decide)
    have b32 := x5 t 32 (w := 8) (by decide)
    have c8 : zc t 8 8 = ((xk t 8 8 : Nat) : Int) := rfl
    have c32 : zc t 32 8 = ((xk t 32 8 : Nat) : Int) := rfl
    rw [a8, qA.bind_ok, a32, qA.bind_ok, QN, qE, qE]
    unfold ui
    simp only [Nat.zero_add]
    by_cases g1 : xk t 8 8 > zy
    · rw [if_pos (by unfold zy at g1; omega), if_pos (Or.inl g1)]; rfl
    · rw [if_neg (by unfold zy at g1; omega)]
      by_cases g2 : xk t 32 8 > zy
      · rw [if_pos (by unfold zy at g2; omega), if_pos (Or.inr g2)]; rfl
      · have d0 := vO t 0 4
        have d1 := Qg t 0
        have d2 := vO t 4 4
        have d3 := Qg t 4
        unfold zy at g1 g2
        rw [if_neg (by omega), if_neg (by unfold zy; omega), c8, c32, vU K s hs _ _ b32, qA.bind_ok, v1, qE]
        by_cases g3 : xk t 8 8 + xk t 32 8 ≤ s.length
        · rw [if_pos g3, if_pos g3, a0, qA.bind_ok, a4, qA.bind_ok, a16, qA.bind_ok, a24, qA.bind_ok, a40, qA.bind_ok, a48, qA.bind_ok]
          rw [y1 (by simp only [List.length_cons, List.length_nil]; omega), qF, zo, zo, zF (x := zc t 0 4) (by omega) (by omega), zF (x := zc t 4 4) (by omega) (by omega), zF (x := ((xk t 8 8 : Nat) : Int)) (by omega) (by omega), zF (x := ((xk t 32 8 : Nat) : Int)) (by omega) (by omega), Qp i (by omega)]
          rw [ih k (i + 1) _ (by omega) (by omega) (by simp [hl]), show a + 56 * (i + 1) = a + 56 * i + 56 by omega]
          rfl
        · rw [if_neg g3, if_neg g3]; rfl
theorem X5 (a n : Nat) (h : a + 64 * n ≤ s.length) (hn : n ≤ 1002) : ∀ (j k i : Nat) (l : List jg) (ns : List Int), i + j = n → 1 ≤ i → j < k → l.length + 1 = i → ns.length + 1 = i →
    qm.l3 K s (a : Int) (n : Int) k l ns (i : Int) = Z0 (x3 s s (a + 64 * i) j l ns) (fun e => .ok ([], [], e)) fun q => .ok (q.1, q.2, 0) := by
  intro j
  induction j with
  | zero =>
    intro k i l ns hij h1 hk hl hns
    obtain ⟨k, rfl⟩ : ∃ m, k = m + 1 := ⟨k - 1, by omega⟩
    rw [qm.l3, qE, if_neg (by omega)]; rfl
  | succ j ih =>
    intro k i l ns hij h1 hk hl hns
    obtain ⟨k, rfl⟩ : ∃ m, k = m + 1 := ⟨k - 1, by omega⟩
    have e1 : qM ((a : Int) + qM ((64 : Int) * (i : Int))) = ((a + 64 * i : Nat) : Int) := by rw [q8 (x := (64 : Int) * _) (by omega) (by omega), q8 (by omega) (by omega)]; omega
    have e2 : qM (((a + 64 * i : Nat) : Int) + 64) = ((a + 64 * i + 64 : Nat) : Int) := by rw [q8 (by omega) (by omega)]; omega
    have hm := Qm s (a + 64 * i) 64 0 (by decide)
    have hl64 := ZK s (a + 64 * i) 64 (by omega)
    rw [qm.l3, qE, if_pos (by omega), e1, e2, xj (by omega) (by omega) (by omega), qF, zo, vr, Nat.add_sub_cancel_left]
    rw [Nat.add_zero] at hm
    rw [x3, u4, ← hm]
    generalize (s.drop (a + 64 * i)).take 64 = t at hl64
    have n8 : ∀ o : Nat, o + 8 ≤ 64 → qd.m K t (o : Int) 8 = .ok (zc t o 8) := fun o ho => vP (w := 8) (by omega) (by omega) w8 (by omega)
    have n4 : ∀ o : Nat, o + 4 ≤ 64 → qd.m K t (o : Int) 4 = .ok (zc t o 4) := fun o ho => vP (w := 4) (by omega) (by omega) w4 (by omega)
    have a0 : qd.m K t 0 4 = .ok (zc t 0 4) := n4 0 (by decide)
    have a4 : qd.m K t 4 4 = .ok (zc t 4 4) := n4 4 (by decide)
    have a8 : qd.m K t 8 8 = .ok (zc t 8 8) := n8 8 (by decide)
    have a16 : qd.m K t 16 8 = .ok (zc t 16 8) := n8 16 (by decide)
    have a24 : qd.m K t 24 8 = .ok (zc t 24 8) := n8 24 (by decide)
    have a32 : qd.m K t 32 8 = .ok (zc t 32 8) := n8 32 (by decide)
    have a40 : qd.m K t 40 4 = .ok (zc t 40 4) := n4 40 (by decide)
    have a44 : qd.m K t 44 4 = .ok (zc t 44 4) := n4 44 (by decide)
    have a48 : qd.m K t 48 8 = .ok (zc t 48 8) := n8 48 (by decide)
    have a56 : qd.m K t 56 8 = .ok (zc t 56 8) := n8 56 (by decide)
    have b24 := x5 t 24 (w := 8) (by decide)
    have b32 := x5 t 32 (w := 8) (by decide)
    have c24 : zc t 24 8 = ((xk t 24 8 : Nat) : Int) := rfl
    have c32 : zc t 32 8 = ((xk t 32 8 : Nat) : Int) := rfl
    have d2 := vO t 4 4
    have d3 := Qg t 4
    have d4 := vO t 40 4
    have d5 := Qg t 40
    have d6 := vO t 44 4
    have d7 := Qg t 44
    have w4' : wr .i64 (zc t 4 4) = zc t 4 4 := zF (by omega) (by omega)
    have w40 : wr .i64 (zc t 40 4) = zc t 40 4 := zF (by omega) (by omega)
    have w44 : wr .i64 (zc t 44 4) = zc t 44 4 := zF (by omega) (by omega)
    rw [a4, qA.bind_ok, a8, qA.bind_ok, a16, qA.bind_ok, a40, qA.bind_ok, a44, qA.bind_ok, a48, qA.bind_ok, a56, qA.bind_ok, a24, qA.bind_ok, a32, qA.bind_ok, QN, qE, qE]
    unfold vo qm.j4
    simp only [Nat.zero_add, w4', w40, w44, a0, qA.bind_ok]
    by_cases g1 : xk t 24 8 > zy
    · rw [if_pos (show zc t 24 8 > (1099511627776 : Int) from Zw g1), if_pos (Or.inl g1)]; rfl
    · rw [if_neg (show ¬ zc t 24 8 > (1099511627776 : Int) from Zv g1)]
      by_cases g2 : xk t 32 8 > zy
      · rw [if_pos (show zc t 32 8 > (1099511627776 : Int) from Zw g2), if_pos (Or.inr g2)]; rfl
      · have w32 : wr .i64 (zc t 32 8) = zc t 32 8 := Yi g2
        have g12 : ¬ (xk t 24 8 > zy ∨ xk t 32 8 > zy) := fun h => h.elim g1 g2
        have m32 : ¬ zc t 32 8 > (1099511627776 : Int) := Zv g2
        clear d2 d3 d4 d5 d6 d7 g1 g2 a0 a4 a8 a16 a24 a32 a40 a44 a48 a56 n8 n4 w4' w40 w44
        have hr1 : ∀ x : jg, room (l.length + [x].length) 96 = true := fun x => y1 (by simp only [List.length_cons, List.length_nil]; omega)
        have hr2 : ∀ x : Int, room (ns.length + [x].length) 8 = true := fun x => y1 (by simp only [List.length_cons, List.length_nil]; omega)
        rw [if_neg m32, if_neg g12, vZ (x := zc t 4 4) (y := 8)]
        by_cases g4 : zc t 4 4 = 8
        · rw [if_pos g4, if_pos g4, hr1, qF, zo, hr2, qF, zo, zo, w32, Qp i (by omega)]
          rw [ih k (i + 1) _ _ (by omega) (by omega) (by omega) (by simp [hl]) (by simp [hns]), show a + 64 * (i + 1) = a + 64 * i + 64 by omega]
          rfl
        · rw [if_neg g4, if_neg g4, c24, c32, vU K s hs _ _ b32, qA.bind_ok, v1, qE]
          by_cases g3 : xk t 24 8 + xk t 32 8 ≤ s.length
          · have e9 := X8 g3 hs
            have e10 := Xn g3
            rw [if_pos g3, if_pos g3, e9, e10, qF, hr1, qF, zo, hr2, qF, zo, zo, Qp i (by omega), vr, Nat.add_sub_cancel_left]
            rw [ih k (i + 1) _ _ (by omega) (by omega) (by omega) (by simp [hl]) (by simp [hns]), show a + 64 * (i + 1) = a + 64 * i + 64 by omega]
            rfl
          · rw [if_neg g3, if_neg g3]; rfl
omit hK in
theorem Xl (a n : Nat) (h : a + 64 * n ≤ s.length) (h2 : 2 ≤ n) : ∀ (j k i : Nat), i + j = 64 → j < k →
    qm.l1 K s (a : Int) (n : Int) k (i : Int) = cond (((s.drop (a + i)).take j).all v8) (qm.j2 K s (a : Int) (n : Int)) (.ok ([], [], 3)) := by
  intro j
  induction j with
  | zero =>
    intro k i hij hk
    obtain ⟨k, rfl⟩ : ∃ m, k = m + 1 := ⟨k - 1, by omega⟩
    rw [qm.l1, qE, if_neg (by omega)]; rfl
  | succ j ih =>
    intro k i hij hk
    obtain ⟨k, rfl⟩ : ∃ m, k = m + 1 := ⟨k - 1, by omega⟩
    have hlt : a + i < s.length := by omega
    have e1 : qM ((a : Int) + (i : Int)) = ((a + i : Nat) : Int) := by rw [q8 (by omega) (by omega)]; omega
    have e4 : (((rd s ((a + i : Nat) : Int)).toNat : Int) != (0 : Int)) = !(v8 (rd s ((a + i : Nat) : Int))) := by unfold bne; rw [vR]
    rw [qm.l1, qE, if_pos (by omega), e1, z9 hlt, qF, e4, v1, zo, Qp i (by omega), ih k (i + 1) (by omega) (by omega)]
    rw [List.drop_eq_getElem_cons hlt, List.take_succ_cons, List.all_cons, QH hlt, Nat.add_assoc]
    cases v8 s[a + i] <;> rfl
end
theorem XR (K : Nat) (d : List UInt8) (hd : d.length < 140737488355328) (hK : d.length < K) (a : Nat) (ha : a < 4294967296) :
    ∃ y b, q9.m K d (a : Int) = .ok (y, b) ∧ (xW d a = none → b = false) ∧ ∀ x, xW d a = some x → b = true ∧ y = x := by
  have loop : a ≤ d.length → ∀ (k : Nat) (P T : List UInt8), d.drop a = P ++ T → P.all nz = true → T.length < k →
      ∃ y b, q9.l1 K d (a : Int) k ((a + P.length : Nat) : Int) = .ok (y, b) ∧ (xW d a = none → b = false) ∧ ∀ x, xW d a = some x → b = true ∧ y = x := by
    intro hal k
    induction k with
    | zero => intro P T _ _ h; omega
    | succ k ih =>
      intro P T hP hz hk
      have hlen : d.length = a + P.length + T.length := by have := congrArg List.length hP; simp at this; omega
      rw [q9.l1, qE]
      cases T with
      | nil =>
        have hn : xW d a = none := by
          unfold xW Zj
          rw [hP, List.append_nil, hz]; simp
        rw [if_neg (by simp only [List.length_nil] at hlen; omega), hn]
        exact ⟨[], false, rfl, fun _ => rfl, fun x hx => by cases hx⟩
      | cons c T =>
        simp only [List.length_cons] at hlen hk
        have hr : rd d ((a + P.length : Nat) : Int) = c := by
          have h1 : d = d.take a ++ d.drop a := (List.take_append_drop a d).symm
          rw [h1, hP, ← List.append_assoc]
          exact jJ (d.take a ++ P) c T (by simp; omega)
        rw [if_pos (by omega), z9 (by omega), qF, hr, vR]
        cases hc : v8 c with
        | true =>
          have hcn : nz c = false := by unfold v8 at hc; simpa using hc
          have htw : (d.drop a).takeWhile nz = P := by
            rw [hP, List.takeWhile_append_of_pos (fun x hx => List.all_eq_true.1 hz x hx), List.takeWhile_cons, hcn]; simp
          have hnz : Zj (d.drop a) = false := by unfold Zj; rw [hP, List.all_append, List.all_cons, hcn]; simp
          have hsub : sub d (a : Int) ((a + P.length : Nat) : Int) = P := by
            rw [vr, Nat.add_sub_cancel_left, hP, List.take_left]
          rw [cond_true, xj (by omega) (by omega) (by omega), qF, zo, zo, hsub, zF (x := (a : Int)) (by omega) (by omega), q8 (by omega) (by omega)]
          have he : xW d a = if P.length ≤ 200 then some P else none := by
            unfold xW
            rw [htw, hnz]
            by_cases h : P.length ≤ 200
            · rw [if_pos h, if_pos ⟨hal, rfl, h⟩]
            · rw [if_neg h, if_neg (fun q => h q.2.2)]
          refine ⟨P, _, rfl, ?_, ?_⟩
          · intro h
            rw [he] at h
            by_cases h3 : P.length ≤ 200
            · rw [if_pos h3] at h; cases h
            · exact decide_eq_false (by omega)
          · intro x h
            rw [he] at h
            by_cases h3 : P.length ≤ 200
            · rw [if_pos h3] at h; cases h; exact ⟨decide_eq_true (by omega), rfl⟩
            · rw [if_neg h3] at h; cases h
        | false =>
          have hcn : nz c = true := by unfold v8 at hc; simpa using hc
          have e3 : qM (((a + P.length : Nat) : Int) + 1) = ((a + (P ++ [c]).length : Nat) : Int) := by rw [q8 (by omega) (by omega)]; simp; omega
          rw [cond_false, zo, e3]
          exact ih (P ++ [c]) T (by rw [hP]; simp) (by rw [List.all_append, hz, List.all_cons, hcn]; rfl) (by omega)
  unfold q9.m
  rw [z7 (x := (d.length : Int)) (by omega) (by omega), qE]
  by_cases h : a ≤ d.length
  · rw [if_neg (by omega), zo, zF (by omega) (by omega)]
    have := loop h K [] (d.drop a) rfl rfl (by simp; omega)
    exact this
  · rw [if_pos (by omega)]
    have hn : xW d a = none := by unfold xW; rw [if_neg (fun q => h q.1)]
    rw [hn]
    exact ⟨[], false, rfl, fun _ => rfl, fun x hx => by cases hx⟩
end Go.Pn

set_option maxRecDepth 100000
namespace Go.Pn
open Go Go.Sl Go.Pu Go.Mo
def Zt (ty ma en fl : Int) (sg : List vV) (last : Nat) (o : Option (List jg)) : Except Int uk :=
  match o with
  | none => .error 3
  | some q => cond ((rd q (last : Int)).Name_ == uV) (.ok ⟨ty, ma, en, fl, sg, q.take last⟩) (.error 3)
theorem QP (ty ma en fl : Int) (sg : List vV) (l : List jg) (ns : List Int) :
    vu ty ma en fl sg l ns = if (rd l ((l.length - 1 : Nat) : Int)).Type_ = 3 then Zt ty ma en fl sg (l.length - 1) (xG (rd l ((l.length - 1 : Nat) : Int)).Data_ l ns) else .error 3 := by
  unfold vu Zt; rfl
section
variable (K : Nat) (hK : 200000 < K) (ty ma en fl : Int) (ht : wr .i64 ty = ty) (hm : wr .i64 ma = ma) (hf : wr .i64 fl = fl) (sg : List vV)
include ht hm hf in
theorem Z9 (l0 : List jg) (ns : List Int) (hns : ∀ n ∈ ns, 0 ≤ n ∧ n < 4294967296) (last : Nat) (d : List UInt8) (hd : d.length < 140737488355328) (hdK : d.length < K) (hlen : ns.length < 140737488355328) (hlast : last + 1 = ns.length) (hl0 : l0.length = ns.length) (hd0 : (rd l0 (last : Int)).Data_ = d) :
    ∀ (k : Nat) (D T : List jg) (N1 N2 : List Int), N1 ++ N2 = ns → D.length = N1.length → T.length = N2.length → N2.length < k → N2 ≠ [] →
    qe.l6 K ty ma en fl sg l0 ns k (D ++ T) (N1.length : Int) = .ok (yx (Zt ty ma en fl sg last ((xG d T N2).map (D ++ ·)))) := by
  intro k
  induction k with
  | zero => intro D T N1 N2 _ _ _ h _; omega
  | succ k ih =>
    intro D T N1 N2 h hD hT hk hne
    have hl : N1.length + N2.length = ns.length := by rw [← h]; simp
    cases N2 with
    | nil => exact absurd rfl hne
    | cons n N2 =>
      cases T with
      | nil => simp at hT
      | cons x T =>
        simp only [List.length_cons] at hl hk hT
        have e1 : rd ns (N1.length : Int) = n := by rw [← h]; exact jJ N1 n N2 rfl
        have e2 : rd (D ++ x :: T) (N1.length : Int) = x := jJ D x T (by rw [hD])
        have e3 : qM ((N1.length : Int) + 1) = ((N1 ++ [n]).length : Int) := by rw [q8 (by omega) (by omega)]; simp
        have hn := hns n (by rw [← h]; simp)
        have hlx : (D ++ x :: T).length = ns.length := by rw [List.length_append, List.length_cons]; omega
        obtain ⟨z, rfl⟩ : ∃ z : Nat, n = (z : Int) := ⟨n.toNat, by omega⟩
        have ew : qM ((l0.length : Int) - 1) = (last : Int) := by rw [q8 (by omega) (by omega)]; omega
        have ew2 : qM (((D ++ x :: T).length : Int) - 1) = (last : Int) := by rw [q8 (by omega) (by omega)]; omega
        obtain ⟨y, b, hy, hy0, hy1⟩ := XR K d hd hdK z (by omega)
        rw [qe.l6, qE, if_pos (by omega), z9 (by omega), qF, ew, hd0, e1, hy, qA.bind_ok]
        simp only []
        unfold xG
        simp only [Int.toNat_natCast]
        cases ha : xW d z with
        | none =>
          obtain rfl := hy0 ha
          rfl
        | some sn =>
          obtain ⟨rfl, rfl⟩ := hy1 sn ha
          have eset : (D ++ x :: T).set N1.length (zE x y) = (D ++ [zE x y]) ++ T := by
            have := QI D x (zE x y) T (i := ((N1.length : Nat) : Int)) (by rw [hD])
            rw [Int.toNat_natCast] at this
            rw [this]; simp
          have heta : ∀ g : List jg → Int → qA R7, qe.j8 K g (D ++ x :: T) (N1.length : Int) y false = g ((D ++ [zE x y]) ++ T) ((N1 ++ [(z : Int)]).length : Int) := fun g => by
            unfold qe.j8
            rw [cond_false, z9 (by omega), qF, zo, zo, e2, e3, Int.toNat_natCast, show qa.mk y x.Type_ x.Flags_ x.Addr_ x.Data_ x.Size_ x.Link_ x.Info_ x.Align_ x.Each_ = zE x y from rfl, eset]
          unfold qe.j7
          rw [Bool.not_true, cond_false, ew2, vZ]
          cases T with
          | nil =>
            simp only [List.length_nil] at hT
            have hN2 : N2 = [] := List.eq_nil_of_length_eq_zero (by omega)
            subst hN2
            simp only [List.length_nil] at hl
            have hr : rd (D ++ [zE x y]) (last : Int) = zE x y := jJ D (zE x y) [] (by omega)
            rw [if_pos (by omega), show ([46, 115, 104, 115, 116, 114, 116, 97, 98] : List UInt8) = uV from rfl]
            have hN : Option.map (fun x => D ++ x) (Option.bind (some y) fun s => Option.map (fun q => zE x s :: q) (xG d [] [])) = some (D ++ [zE x y]) := rfl
            rw [hN]
            unfold Zt
            simp only [hr]
            rw [show (zE x y).Name_ = y from rfl]
            cases hb : (y == uV) with
            | false => rfl
            | true =>
              rw [Bool.not_true, heta, List.append_nil]
              have hlq : (D ++ [zE x y]).length = last + 1 := by simp; omega
              cases k with
              | zero => simp only [List.length_nil] at hk; omega
              | succ k =>
                rw [qe.l6, qE, if_neg (by simp only [List.length_append, List.length_cons, List.length_nil]; omega)]
                unfold qe.j9
                have e9 : qM (((D ++ [zE x y]).length : Int) - 1) = (last : Int) := by rw [q8 (by omega) (by omega)]; omega
                rw [e9, xj (by omega) (by omega) (by omega), qF, zo, yW, ht, hm, hf]; rfl
          | cons x2 T =>
            have hne2 : N2 ≠ [] := by intro h0; rw [h0] at hT; simp at hT
            simp only [List.length_cons] at hT
            rw [if_neg (by omega), heta, ih (D ++ [zE x y]) (x2 :: T) (N1 ++ [(z : Int)]) N2 (by rw [← h]; simp) (by simp [hD]) (by simp only [List.length_cons]; omega) (by omega) hne2]
            congr 2
            cases xG d (x2 :: T) N2 <;> simp
end
theorem vz (s t : List UInt8) : ∀ (n o : Nat) (l : List jg) (ns : List Int) (q : List jg × List Int), x3 s t o n l ns = .ok q → l.length = ns.length → (∀ x ∈ l, x.Data_.length ≤ s.length) → (∀ n ∈ ns, 0 ≤ n ∧ n < 4294967296) →
    q.1.length = l.length + n ∧ q.2.length = q.1.length ∧ (∀ x ∈ q.1, x.Data_.length ≤ s.length) ∧ ∀ n ∈ q.2, 0 ≤ n ∧ n < 4294967296
  | 0, o, l, ns, q, h, hl, h1, h2 => by cases h; exact ⟨rfl, hl.symm, h1, h2⟩
  | n + 1, o, l, ns, q, h, hl, h1, h2 => by
    rw [x3] at h
    cases hx : vo s t o with
    | error e => rw [hx] at h; cases h
    | ok x =>
      rw [hx] at h
      obtain ⟨q1, q2, q3⟩ := uI hx
      have := vz s t n (o + 64) (l ++ [x.1]) (ns ++ [x.2]) q h (by simp [hl]) (by
        intro y hy
        rcases List.mem_append.1 hy with h | h
        · exact h1 y h
        · rw [List.mem_singleton.1 h]; exact q1) (by
        intro y hy
        rcases List.mem_append.1 hy with h | h
        · exact h2 y h
        · rw [List.mem_singleton.1 h]; exact ⟨q2, q3⟩)
      rw [List.length_append, List.length_singleton] at this
      exact ⟨by omega, this.2⟩
theorem Xh (X : qA R7) (R : Except Int uk) (b1 b2 b3 b4 b5 b6 b7 b8 b9 : Bool) (h : (!b1 || (b2 || b3 || b4 || b5) || (b6 || b7 || b8 || b9)) = false → X = .ok (yx R)) :
    cond (!b1) (cond true (.ok (0, 0, 0, 0, [], [], 3)) (cond b6 (cond (true || b8 || b9) (.ok (0, 0, 0, 0, [], [], 3)) X) (cond (b7 || b8 || b9) (.ok (0, 0, 0, 0, [], [], 3)) X)))
      (cond b2 (cond true (.ok (0, 0, 0, 0, [], [], 3)) (cond b6 (cond (true || b8 || b9) (.ok (0, 0, 0, 0, [], [], 3)) X) (cond (b7 || b8 || b9) (.ok (0, 0, 0, 0, [], [], 3)) X)))
        (cond b3 (cond true (.ok (0, 0, 0, 0, [], [], 3)) (cond b6 (cond (true || b8 || b9) (.ok (0, 0, 0, 0, [], [], 3)) X) (cond (b7 || b8 || b9) (.ok (0, 0, 0, 0, [], [], 3)) X)))
          (cond b4 (cond true (.ok (0, 0, 0, 0, [], [], 3)) (cond b6 (cond (true || b8 || b9) (.ok (0, 0, 0, 0, [], [], 3)) X) (cond (b7 || b8 || b9) (.ok (0, 0, 0, 0, [], [], 3)) X)))
            (cond b5 (.ok (0, 0, 0, 0, [], [], 3)) (cond b6 (cond (true || b8 || b9) (.ok (0, 0, 0, 0, [], [], 3)) X) (cond (b7 || b8 || b9) (.ok (0, 0, 0, 0, [], [], 3)) X)))))) =
      .ok (yx (cond (!b1 || (b2 || b3 || b4 || b5) || (b6 || b7 || b8 || b9)) (.error 3) R)) := by
  cases b1 <;> cases b2 <;> cases b3 <;> cases b4 <;> cases b5 <;> cases b6 <;> cases b7 <;> cases b8 <;> cases b9 <;> first | rfl | exact h rfl
theorem jm (s : List UInt8) (a : Nat) : wr .i64 (zc s a 2) = zc s a 2 := by have h1 := vO s a 2; have h2 := Xa s a; exact zF (by omega) (by omega)
theorem QS (s : List UInt8) (a : Nat) : wr .i64 (zc s a 4) = zc s a 4 := by have h1 := vO s a 4; have h2 := Qg s a; exact zF (by omega) (by omega)
section
variable (K : Nat) (s : List UInt8) (hs : s.length < 140737488355328) (hK : s.length + 200000 < K)
include hs hK
theorem Yn (kN a : Nat) (hk0 : 2 ≤ kN) (hk2 : kN ≤ 1002) (ha : a + 64 * kN ≤ s.length) (ty ma en fl : Int) (ht : wr .i64 ty = ty) (hm : wr .i64 ma = ma) (hf : wr .i64 fl = fl) (sg : List vV) :
    qe.j5 K s (kN : Int) (a : Int) ty ma en fl sg 0 = .ok (yx (cond (((s.drop a).take 64).all v8) ((x3 s s (a + 64) (kN - 1) [] []).bind fun q => vu ty ma en fl sg q.1 q.2) (.error 3))) := by
  unfold qe.j5 qm.m
  rw [show ((0 : Int) != 0) = false from rfl, cond_false, zF (by omega) (by omega)]
  have h1 := Xl K s hs a kN ha hk0 64 K 0 (by omega) (by omega)
  rw [Nat.add_zero] at h1
  have h1' : qm.l1 K s (a : Int) (kN : Int) K 0 = _ := h1
  rw [h1']
  cases ((s.drop a).take 64).all v8 with
  | false => rfl
  | true =>
    rw [cond_true, cond_true]
    unfold qm.j2
    have h2 := X5 K (by omega) s hs a kN ha hk2 (kN - 1) K 1 [] [] (by omega) (by omega) (by omega) rfl rfl
    rw [Nat.mul_one] at h2
    have h2' : qm.l3 K s (a : Int) (kN : Int) K [] [] 1 = _ := h2
    rw [h2']
    cases hq : x3 s s (a + 64) (kN - 1) [] [] with
    | error e =>
      have he : e ≠ 0 := by
        have : ∀ (n o : Nat) (l : List jg) (ns : List Int), x3 s s o n l ns = .error e → e ≠ 0 := by
          intro n
          induction n with
          | zero => intro o l ns h; cases h
          | succ n ih =>
            intro o l ns h
            rw [x3] at h
            cases hx : vo s s o with
            | ok x => rw [hx] at h; exact ih _ _ _ h
            | error e' =>
              rw [hx] at h
              cases h
              unfold vo at hx
              split at hx
              · cases hx; decide
              · split at hx
                · cases hx
                · split at hx
                  · cases hx
                  · cases hx; decide
        exact this _ _ _ _ hq
      simp only [Z0, qA.bind_ok]
      rw [j6, if_neg he]; rfl
    | ok q =>
      obtain ⟨q1, q2, q3, q4⟩ := vz s s _ _ [] [] q hq rfl (fun _ h => (List.not_mem_nil h).elim) (fun _ h => (List.not_mem_nil h).elim)
      simp only [List.length_nil] at q1
      have ew : qM ((q.1.length : Int) - 1) = ((q.1.length - 1 : Nat) : Int) := by rw [q8 (by omega) (by omega)]; omega
      simp only [Z0, qA.bind_ok]
      rw [show ((0 : Int) != 0) = false from rfl, cond_false, ew, z9 (by omega), qF, j6]
      show _ = qA.ok (yx (vu ty ma en fl sg q.1 q.2))
      rw [QP]
      by_cases h3 : (rd q.1 ((q.1.length - 1 : Nat) : Int)).Type_ = 3
      · have hmem : rd q.1 ((q.1.length - 1 : Nat) : Int) ∈ q.1 := by rw [QH (by omega)]; exact List.getElem_mem _
        have hdl := q3 _ hmem
        have := Z9 K ty ma en fl ht hm hf sg q.1 q.2 q4 (q.1.length - 1) _ (by omega) (by omega) (by omega) (by omega) (by omega) rfl K [] q.1 [] q.2 rfl rfl q2.symm (by omega) (by intro h0; rw [h0] at q2; simp at q2; omega)
        rw [if_pos h3, if_pos h3]
        rw [List.nil_append, show (([] : List Int).length : Int) = 0 from rfl] at this
        rw [this]
        cases xG (rd q.1 ((q.1.length - 1 : Nat) : Int)).Data_ q.1 q.2 <;> rfl
      · rw [if_neg h3, if_neg h3]; rfl
omit hs hK in
theorem Zg {e : Int} : ∀ (n o : Nat) (l : List vV), yb s s o n l = .error e → e ≠ 0 := by
  intro n
  induction n with
  | zero => intro o l h; cases h
  | succ n ih =>
    intro o l h
    rw [yb] at h
    cases hx : ui s s o with
    | ok x => rw [hx] at h; exact ih _ _ h
    | error e' =>
      rw [hx] at h
      cases h
      unfold ui at hx
      split at hx
      · cases hx; decide
      · split at hx
        · cases hx
        · cases hx; decide
theorem XK (n kN p a : Nat) (hk0 : 2 ≤ kN) (hk2 : kN ≤ 1002) (hn : n ≤ 1000) (hp8 : p < 18446744073709551616) (ha8 : a < 18446744073709551616) (h64 : 64 ≤ s.length) :
    (cond (decide ((n : Int) > (0 : Int))) ((zb.m K s (p : Int) (wr .u64 (qM ((56 : Int) * (n : Int))))).bind fun b => qe.j3 K s (n : Int) (kN : Int) (p : Int) (a : Int) (!b)) (qe.j3 K s (n : Int) (kN : Int) (p : Int) (a : Int) false)) = .ok (yx (jG s (zc s 16 2) (zc s 18 2) (zc s 24 8) (zc s 48 4) n kN p a)) := by
  have eseg : wr .u64 (qM ((56 : Int) * (n : Int))) = ((56 * n : Nat) : Int) := by
    rw [q8 (by omega) (by omega), z7 (by omega) (by omega)]; omega
  have esec : wr .u64 (qM ((64 : Int) * (kN : Int))) = ((64 * kN : Nat) : Int) := by
    rw [q8 (by omega) (by omega), z7 (by omega) (by omega)]; omega
  have m16 : qd.m K s 16 2 = .ok (zc s 16 2) := vP (o := 16) (w := 2) (by omega) hs w2 (by omega)
  have m18 : qd.m K s 18 2 = .ok (zc s 18 2) := vP (o := 18) (w := 2) (by omega) hs w2 (by omega)
  have m24 : qd.m K s 24 8 = .ok (zc s 24 8) := vP (o := 24) (w := 8) (by omega) hs w8 (by omega)
  have m48 : qd.m K s 48 4 = .ok (zc s 48 4) := vP (o := 48) (w := 4) (by omega) hs w4 (by omega)
  unfold jG
  rw [eseg, qE, vU K s hs _ _ (by omega), qA.bind_ok]
  unfold qe.j3
  rw [esec, vU K s hs _ _ (by omega), qA.bind_ok]
  unfold qe.j4
  rw [m16, m18, m24, m48]
  simp only [qA.bind_ok]
  by_cases h0 : 0 < n
  · rw [if_pos (by omega)]
    by_cases h1 : p + 56 * n ≤ s.length
    · rw [decide_eq_true h1, Bool.not_true, cond_false]
      by_cases h2 : a + 64 * kN ≤ s.length
      · rw [decide_eq_true h2, Bool.not_true, cond_false, if_neg (by omega), qE, if_pos (by omega), zF (by omega) (by omega)]
        unfold qP.m
        have := X6 K (by omega) s hs p n h1 hn n K 0 [] (by omega) (by omega) rfl
        rw [Nat.mul_zero, Nat.add_zero] at this
        have h' : qP.l1 K s (p : Int) (n : Int) K [] 0 = _ := this
        rw [h']
        cases hq : yb s s p n [] with
        | error e =>
          have he := Zg s _ _ _ hq
          simp only [Z0, qA.bind_ok]
          unfold qe.j5
          rw [j6, if_neg he]; rfl
        | ok sg =>
          simp only [Z0, qA.bind_ok]
          exact Yn K s hs hK kN a hk0 hk2 h2 _ _ _ _ (jm ..) (jm ..) (QS ..) sg
      · rw [decide_eq_false h2, if_pos (Or.inr h2)]; rfl
    · rw [decide_eq_false h1, if_pos (Or.inl ⟨h0, h1⟩)]; rfl
  · rw [if_neg (by omega), cond_false]
    by_cases h2 : a + 64 * kN ≤ s.length
    · obtain rfl : n = 0 := by omega
      rw [decide_eq_true h2, Bool.not_true, cond_false, if_neg (by omega), qE, if_neg (by omega), yb, Yn K s hs hK kN a hk0 hk2 h2 _ _ _ _ (jm ..) (jm ..) (QS ..) []]
      rfl
    · rw [decide_eq_false h2, if_pos (Or.inr h2)]; rfl
theorem ZY (hb : yg s = false) (h64 : 64 ≤ s.length) : (cond (decide (zc s 56 2 > (0 : Int))) ((zb.m K s (zc s 32 8) (wr .u64 (qM ((56 : Int) * zc s 56 2)))).bind fun b => qe.j3 K s (zc s 56 2) (zc s 60 2) (zc s 32 8) (zc s 40 8) (!b)) (qe.j3 K s (zc s 56 2) (zc s 60 2) (zc s 32 8) (zc s 40 8) false)) = .ok (yx (jG s (zc s 16 2) (zc s 18 2) (zc s 24 8) (zc s 48 4) (xk s 56 2) (xk s 60 2) (xk s 32 8) (xk s 40 8))) := by
  obtain ⟨hk0, hk2, hn⟩ := QA hb
  have h := XK K s hs hK _ _ _ _ hk0 hk2 hn (x5 s 32 (w := 8) (by decide)) (x5 s 40 (w := 8) (by decide)) h64
  have e32 : ((xk s 32 8 : Nat) : Int) = zc s 32 8 := rfl
  have e40 : ((xk s 40 8 : Nat) : Int) = zc s 40 8 := rfl
  have e60 : ((xk s 60 2 : Nat) : Int) = zc s 60 2 := rfl
  have e56 : ((xk s 56 2 : Nat) : Int) = zc s 56 2 := rfl
  rw [e32, e40, e60, e56] at h
  exact h
theorem Xg : qe.m K s = .ok (yx (xU s)) := by
  rw [ue]
  unfold qe.m
  rw [qE]
  by_cases h64 : s.length < 64
  · rw [if_pos (by omega), if_pos h64]; rfl
  · have m2 : ∀ o : Nat, o + 2 ≤ 64 → qd.m K s (o : Int) 2 = .ok (zc s o 2) := fun o h => vP (w := 2) (by omega) hs w2 (by omega)
    have m52 : qd.m K s 52 2 = .ok (zc s 52 2) := m2 52 (by decide)
    have m54 : qd.m K s 54 2 = .ok (zc s 54 2) := m2 54 (by decide)
    have m56 : qd.m K s 56 2 = .ok (zc s 56 2) := m2 56 (by decide)
    have m58 : qd.m K s 58 2 = .ok (zc s 58 2) := m2 58 (by decide)
    have m60 : qd.m K s 60 2 = .ok (zc s 60 2) := m2 60 (by decide)
    have m62 : qd.m K s 62 2 = .ok (zc s 62 2) := m2 62 (by decide)
    have m20 : qd.m K s 20 4 = .ok (zc s 20 4) := vP (o := 20) (w := 4) (by omega) hs w4 (by omega)
    have m32 : qd.m K s 32 8 = .ok (zc s 32 8) := vP (o := 32) (w := 8) (by omega) hs w8 (by omega)
    have m40 : qd.m K s 40 8 = .ok (zc s 40 8) := vP (o := 40) (w := 8) (by omega) hs w8 (by omega)
    have e16 : sub s 0 16 = s.take 16 := yW s 16
    have k1 := vO s 60 2
    have k2 := Xa s 60
    rw [if_neg (by omega), if_neg h64, m56, qA.bind_ok, zo, m60, qA.bind_ok, zo, xj (by decide) (by decide) (by omega), qF, e16]
    rw [show (decide (0 ≤ (9 : Int)) && room (Int.toNat (9 : Int)) 1) = true from rfl, qF, zo]
    rw [show ([127, 69, 76, 70, 2, 1, 1] : List UInt8) ++ (List.replicate (Int.toNat (9 : Int)) (0 : Int)).map yt = v6 from rfl]
    have hf16 : ([127, 69, 76, 70, 2, 1, 1] : List UInt8).length + ((List.replicate (Int.toNat (9 : Int)) (0 : Int)).map yt).length = 16 := rfl
    rw [hf16, Z2 (by omega), qF]
    rw [jm s 56, jm s 60, m20, m52, m54, m58, qA.bind_ok, qA.bind_ok, qA.bind_ok, qA.bind_ok]
    unfold qe.j1
    rw [m62, qA.bind_ok]
    rw [jm s 62, q8 (x := zc s 60 2 - 1) (by omega) (by omega)]
    unfold qe.j2
    rw [m32, m40, qA.bind_ok, qA.bind_ok]
    unfold yg
    exact Xh _ _ _ _ _ _ _ _ _ _ _ (fun hb => ZY K s hs hK hb (by omega))
end
end Go.Pn

set_option maxRecDepth 100000
namespace Go.Pn
open Go Go.Sl Go.Pu Go.Mo
theorem ZE (m : Nat) : ze.m (m + 300) = .ok true := by kernel_rfl
theorem ZD (K : Nat) (hK : 300 ≤ K) : ze.m K = .ok true := by
  obtain ⟨m, rfl⟩ : ∃ m, K = m + 300 := ⟨K - 300, by omega⟩
  exact ZE m
theorem Yu (K : Nat) (m : uk) (h1 : m.Segments_.length < 1000000) (h2 : m.Sections_.length < 1000000) (hK : 1000000 ≤ K) : qt.m K m m = .ok true := by
  have hS : qt.j2 K m m = .ok true := by
    have := QK m.Sections_ (fun _ => true) (.ok true) (qt.l3 K m m) (fun k v h => by rw [qt.l3, qE, if_neg h]) (fun k i h => by
      rw [qt.l3, qE, if_pos (by omega), z9 h, qF]
      simp only [beq_self_eq_true, Bool.and_true, Bool.not_true, cond_false, cond_true, qF, zo]
      rw [Qp i (by omega)]) K [] m.Sections_ rfl (by omega)
    unfold qt.j2
    rw [show (([] : List jg).length : Int) = 0 from rfl] at this
    rw [this, List.all_eq_true.2 (fun _ _ => rfl)]; rfl
  have := QK m.Segments_ (fun _ => true) (.ok true) (qt.l1 K m m) (fun k v h => by rw [qt.l1, qE, if_neg h, hS]) (fun k i h => by
    rw [qt.l1, qE, if_pos (by omega), z9 h, qF]
    simp only [beq_self_eq_true, Bool.and_true, Bool.not_true, cond_false, cond_true, qF, zo]
    rw [Qp i (by omega)]) K [] m.Segments_ rfl (by omega)
  unfold qt.m
  rw [show (([] : List vV).length : Int) = 0 from rfl] at this
  have hne : ∀ x : Int, (x != x) = false := fun x => by simp
  simp only [hne, Bool.or_self, cond_false]
  rw [this, List.all_eq_true.2 (fun _ _ => rfl)]; rfl
theorem uK (s t : List UInt8) : ∀ (n o : Nat) (l q : List vV), yb s t o n l = .ok q → q.length = l.length + n
  | 0, _, _, _, h => by cases h; rfl
  | n + 1, o, l, q, h => by
    rw [yb] at h
    cases hx : ui s t o with
    | error e => rw [hx] at h; cases h
    | ok x =>
      rw [hx] at h
      have := uK s t n (o + 56) (l ++ [x]) q h
      rw [List.length_append, List.length_singleton] at this
      omega
theorem Z1 {ty ma en fl : Int} {sg : List vV} {l : List jg} {ns : List Int} {m : uk} (h : vu ty ma en fl sg l ns = .ok m) :
    (rd l ((l.length - 1 : Nat) : Int)).Type_ = 3 ∧ ∃ q, xG (rd l ((l.length - 1 : Nat) : Int)).Data_ l ns = some q ∧ (rd q ((l.length - 1 : Nat) : Int)).Name_ = uV ∧ m = ⟨ty, ma, en, fl, sg, q.take (l.length - 1)⟩ := by
  rw [QP] at h
  by_cases h3 : (rd l ((l.length - 1 : Nat) : Int)).Type_ = 3
  · rw [if_pos h3] at h
    refine ⟨h3, ?_⟩
    cases hq : xG (rd l ((l.length - 1 : Nat) : Int)).Data_ l ns with
    | none => rw [hq] at h; cases h
    | some q =>
      rw [hq] at h
      unfold Zt at h
      simp only at h
      cases hb : ((rd q ((l.length - 1 : Nat) : Int)).Name_ == uV) with
      | false => rw [hb] at h; cases h
      | true => rw [hb] at h; cases h; exact ⟨q, rfl, beq_iff_eq.1 hb, rfl⟩
  · rw [if_neg h3] at h; cases h
theorem Zo {s : List UInt8} {ty ma en fl : Int} {n kN p a : Nat} {m : uk} (h : jG s ty ma en fl n kN p a = .ok m) :
    (n = 0 ∨ p + 56 * n ≤ s.length) ∧ a + 64 * kN ≤ s.length ∧ ∃ sg q, yb s s p n [] = .ok sg ∧ ((s.drop a).take 64).all v8 = true ∧ x3 s s (a + 64) (kN - 1) [] [] = .ok q ∧ vu ty ma en fl sg q.1 q.2 = .ok m := by
  unfold jG at h
  split at h
  · cases h
  · rename_i h1
    refine ⟨by omega, by omega, ?_⟩
    cases hs : yb s s p n [] with
    | error e => rw [hs] at h; cases h
    | ok sg =>
      rw [hs] at h
      cases hz : ((s.drop a).take 64).all v8 with
      | false =>
        simp [Except.bind, hz] at h
      | true =>
        cases hq : x3 s s (a + 64) (kN - 1) [] [] with
        | error e =>
          simp [Except.bind, hz, hq] at h
        | ok q =>
          refine ⟨sg, q, rfl, rfl, rfl, ?_⟩
          simpa [Except.bind, hz, hq] using h
theorem ZL {s : List UInt8} {m : uk} (h : xU s = .ok m) : 64 ≤ s.length ∧ yg s = false ∧ jG s (zc s 16 2) (zc s 18 2) (zc s 24 8) (zc s 48 4) (xk s 56 2) (xk s 60 2) (xk s 32 8) (xk s 40 8) = .ok m := by
  rw [ue] at h
  split at h
  · cases h
  · rename_i h1
    cases hb : yg s with
    | true => rw [hb] at h; cases h
    | false => rw [hb] at h; exact ⟨by omega, rfl, h⟩
theorem uG {s : List UInt8} {m : uk} (h : xU s = .ok m) : m.Segments_.length ≤ 1000 ∧ m.Sections_.length ≤ 1002 := by
  obtain ⟨_, hb, h2⟩ := ZL h
  obtain ⟨hk0, hk2, hn⟩ := QA hb
  obtain ⟨_, _, sg, q, hsg, _, hq, hf⟩ := Zo h2
  obtain ⟨_, r, hr, _, rfl⟩ := Z1 hf
  have h3 := uK _ _ _ _ _ _ hsg
  obtain ⟨h4, h5, _⟩ := vz _ _ _ _ _ _ _ hq rfl (fun _ h => (List.not_mem_nil h).elim) (fun _ h => (List.not_mem_nil h).elim)
  have h6 := jS _ _ _ _ h5.symm hr
  simp only [List.length_nil] at h3 h4
  refine ⟨by simpa [h3] using hn, ?_⟩
  simp only [List.length_take]; omega
theorem Xk (K : Nat) (hK : 1000000 ≤ K) (s : List UInt8) : qt.m K ⟨(yx (xU s)).1, (yx (xU s)).2.1, (yx (xU s)).2.2.1, (yx (xU s)).2.2.2.1, (yx (xU s)).2.2.2.2.1, (yx (xU s)).2.2.2.2.2.1⟩ ⟨(yx (xU s)).1, (yx (xU s)).2.1, (yx (xU s)).2.2.1, (yx (xU s)).2.2.2.1, (yx (xU s)).2.2.2.2.1, (yx (xU s)).2.2.2.2.2.1⟩ = .ok true := by
  refine Yu K _ ?_ ?_ hK
  · cases h : xU s with
    | error e => simp [yx]
    | ok m => have := uG h; simp only [yx]; omega
  · cases h : xU s with
    | error e => simp [yx]
    | ok m => have := uG h; simp only [yx]; omega
theorem Qj (K : Nat) (hK : 2000000 < K) (s : List UInt8) : qB.m K s = .ok true := by
  unfold qB.m
  rw [qE]
  by_cases h : s.length > 100000
  · rw [if_pos (by omega), ZD K (by omega)]; rfl
  · rw [if_neg (by omega), ZJ K (by omega) s (by omega), qA.bind_ok, Xg K s (by omega) (by omega)]
    have hs := Xk K (by omega) s
    generalize yx (xU s) = r at hs
    obtain ⟨a, b, c, d, e, f, g⟩ := r
    dsimp only at hs ⊢
    rw [qA.bind_ok]
    dsimp only
    rw [beq_self_eq_true, cond_true, hs, qA.bind_ok]
    unfold qB.j1 qB.j2
    rw [cond_true, ZD K (by omega)]; rfl
theorem uq (s : List UInt8) (_ : s.length ≤ 140737488351232) : qB.m 10000000000000000000 s = .ok true := Qj _ (by decide) s
end Go.Pn

