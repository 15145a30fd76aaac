/- Plain facts on the models: what they compute, and what holds of them; conditions: what each theorem states. -/
import Derived.Test.YtlaobafbdllajaaDoorMljmcg
set_option linter.unusedVariables false
set_option linter.unusedSimpArgs false
namespace Go.Pu
open Go Go.Sl
theorem qD {x : Int} (h0 : -9223372036854775808 ≤ x) (h1 : x < 9223372036854775808) : qJ x = x := by
  show (if (true && decide (x % 18446744073709551616 ≥ 9223372036854775808)) = true then x % 18446744073709551616 - 18446744073709551616 else x % 18446744073709551616) = x
  split <;> rename_i h <;> simp at h <;> omega
theorem Xc (x : Int) : wr .u64 x = x % 18446744073709551616 := by
  simp [wr, IntKind.wrap, IntKind.bits, IntKind.signed]
theorem Zz (x : Int) : wr .u32 x = x % 4294967296 := by
  simp [wr, IntKind.wrap, IntKind.bits, IntKind.signed]
theorem Xd (x : Int) : wr .u8 x = x % 256 := by
  simp [wr, IntKind.wrap, IntKind.bits, IntKind.signed]
theorem zT {x : Int} (h0 : 0 ≤ x) (h1 : x < 18446744073709551616) : wr .u64 x = x := by rw [Xc]; omega
theorem xH {x : Int} (h0 : 0 ≤ x) (h1 : x < 4294967296) : wr .u32 x = x := by rw [Zz]; omega
theorem vy {x : Int} (h0 : 0 ≤ x) (h1 : x < 256) : wr .u8 x = x := by rw [Xd]; omega
theorem xb {x : Int} (h0 : -9223372036854775808 ≤ x) (h1 : x < 9223372036854775808) : wr .i64 x = x := qD h0 h1
theorem yw (n a : Nat) : BitVec.ofInt n (a : Int) = BitVec.ofNat n a := by
  apply BitVec.eq_of_toNat_eq
  simp
theorem Qo {a b : Nat} (ha : a < 18446744073709551616) (hb : b < 18446744073709551616) : yN .u64 a b = ((a &&& b : Nat) : Int) := by
  show IntKind.u64.wrap ((BitVec.ofInt 64 (a : Int) &&& BitVec.ofInt 64 (b : Int)).toNat : Int) = _
  simp only [yw, BitVec.toNat_and, BitVec.toNat_ofNat]
  rw [Nat.mod_eq_of_lt (by simpa using ha), Nat.mod_eq_of_lt (by simpa using hb)]
  have : a &&& b ≤ a := Nat.and_le_left
  exact zT (by omega) (by omega)
theorem Qn {a b : Nat} (ha : a < 9223372036854775808) (hb : b < 9223372036854775808) : yN .i64 a b = ((a &&& b : Nat) : Int) := by
  show IntKind.i64.wrap ((BitVec.ofInt 64 (a : Int) &&& BitVec.ofInt 64 (b : Int)).toNat : Int) = _
  simp only [yw, BitVec.toNat_and, BitVec.toNat_ofNat]
  rw [Nat.mod_eq_of_lt (by omega), Nat.mod_eq_of_lt (by omega)]
  have : a &&& b ≤ a := Nat.and_le_left
  exact qD (by omega) (by omega)
theorem Q7 {a b : Nat} (ha : a < 18446744073709551616) (hb : b < 18446744073709551616) : ZS .u64 a b = ((a ||| b : Nat) : Int) := by
  show IntKind.u64.wrap ((BitVec.ofInt 64 (a : Int) ||| BitVec.ofInt 64 (b : Int)).toNat : Int) = _
  simp only [yw, BitVec.toNat_or, BitVec.toNat_ofNat]
  rw [Nat.mod_eq_of_lt (by simpa using ha), Nat.mod_eq_of_lt (by simpa using hb)]
  have : a ||| b < 2 ^ 64 := Nat.or_lt_two_pow (by simpa using ha) (by simpa using hb)
  exact zT (by omega) (by omega)
theorem Qu {a b : Nat} (ha : a < 9223372036854775808) (hb : b < 9223372036854775808) : jV .i64 (a : Int) (b : Int) = ((a / b : Nat) : Int) := by
  unfold jV
  have h1 : (a : Int).tdiv (b : Int) = ((a / b : Nat) : Int) := by rw [Int.ofNat_tdiv]
  rw [h1]
  have h2 : a / b ≤ a := Nat.div_le_self _ _
  generalize a / b = q at h2 ⊢
  exact qD (by omega) (by omega)
theorem vR {a b : Nat} : jW (a : Int) (b : Int) = ((a % b : Nat) : Int) := by
  unfold jW
  rw [Int.ofNat_tmod]
theorem yO {k : IntKind} {a n : Nat} (hn : n ≤ k.bits) : xB k (a : Int) (n : Int) = ((a / 2 ^ n : Nat) : Int) := by
  unfold xB
  rw [Int.toNat_natCast, Nat.min_eq_left hn, Int.fdiv_eq_ediv_of_nonneg _ (Int.pow_nonneg (by decide))]
  simp
theorem Qw {a n : Nat} (hn : n ≤ 64) (h : a * 2 ^ n < 18446744073709551616) : ju .u64 (a : Int) (n : Int) = ((a * 2 ^ n : Nat) : Int) := by
  unfold ju
  rw [Int.toNat_natCast, show min n IntKind.u64.bits = n from Nat.min_eq_left hn]
  have e : (a : Int) * 2 ^ n = ((a * 2 ^ n : Nat) : Int) := by push_cast; rfl
  rw [e]
  exact zT (by omega) (by omega)
theorem Qv {a n : Nat} (hn : n ≤ 32) (h : a * 2 ^ n < 4294967296) : ju .u32 (a : Int) (n : Int) = ((a * 2 ^ n : Nat) : Int) := by
  unfold ju
  rw [Int.toNat_natCast, show min n IntKind.u32.bits = n from Nat.min_eq_left hn]
  have e : (a : Int) * 2 ^ n = ((a * 2 ^ n : Nat) : Int) := by push_cast; rfl
  rw [e]
  exact xH (by omega) (by omega)
end Go.Pu

namespace Go.Pn
open Go Go.Sl Go.Pu
theorem uq {i : Int} {n : Nat} (h0 : 0 ≤ i) (h1 : i < (n : Int)) : inb i n = true := yv.2 ⟨h0, h1⟩
theorem z9 {lo hi : Int} {n : Nat} (h0 : 0 ≤ lo) (h1 : lo ≤ hi) (h2 : hi ≤ (n : Int)) : subok lo hi n = true := yz.2 ⟨h0, h1, h2⟩
theorem xP {n k : Nat} (h : n * k ≤ 140737488355328) : room n k = true := decide_eq_true h
theorem zo {n : Nat} (h : n ≤ 9223372036854775807) : xV n = true := decide_eq_true h
theorem y6 {x : Int} (h : 0 ≤ x) : decide (0 ≤ x) = true := decide_eq_true h
section
variable {α : Type}
theorem qN {p : Prop} [Decidable p] (a b : α) : cond (decide p) a b = if p then a else b := by
  by_cases h : p <;> simp [h]
theorem yK {x y : Int} (a b : α) : cond (x == y) a b = if x = y then a else b := by
  by_cases h : x = y
  · rw [if_pos h, beq_iff_eq.2 h]; rfl
  · rw [if_neg h, beq_eq_false_iff_ne.2 h]; rfl
theorem yh {x y : Int} (a b : α) : cond (x != y) a b = if x = y then b else a := by
  by_cases h : x = y
  · rw [if_pos h, bne_eq_false_iff_eq.2 h]; rfl
  · rw [if_neg h, bne_iff_ne.2 h]; rfl
theorem yi (x : Bool) (a b : α) : cond (!x) a b = cond x b a := by cases x <;> rfl
theorem vH (x y : Bool) (a b : α) : cond (x && y) a b = cond x (cond y a b) b := by cases x <;> rfl
theorem jx (x y : Bool) (a b : α) : cond (x || y) a b = cond x a (cond y a b) := by cases x <;> rfl
end
theorem ZM {α : Type} [Inhabited α] {l : List α} {i : Nat} (h : i < l.length) : rd l (i : Int) = l[i] := by
  simp [rd, List.getD, List.getElem?_eq_getElem h]
theorem zI {i n : Nat} (h : i < n) : inb (i : Int) n = true := by simp only [inb, decide_eq_true_eq]; omega
theorem uf (n : Nat) : wr .u8 (n : Int) = ((n % 256 : Nat) : Int) := by rw [Xd]; rfl
theorem Zp {α : Type} (l : List α) (n m : Nat) : sub l (n : Int) (m : Int) = (l.drop n).take (m - n) := by
  simp only [sub, Int.toNat_natCast]
theorem y2 {α : Type} (s : List α) (n : Nat) : sub s 0 (n : Int) = s.take n := by simp [sub]
theorem v5 {α : Type} (s : List α) (n : Nat) : sub s (n : Int) (s.length : Int) = s.drop n := by
  simp only [sub, Int.toNat_natCast]
  exact List.take_of_length_le (by simp)
theorem xN (l : List UInt8) : (l.map x4).map jT = l := by
  rw [List.map_map]
  have : (jT ∘ x4) = id := by funext x; simp [jT, x4]
  rw [this, List.map_id]
theorem vh {n : Nat} (h : n < 256) : x4 (UInt8.ofNat n) = (n : Int) := by
  unfold x4
  have : (UInt8.ofNat n).toNat = n % 256 := by simp
  rw [this, Nat.mod_eq_of_lt h]
theorem jK {α : Type} [Inhabited α] (A : List α) (x : α) (B : List α) {i : Int} (h : i = (A.length : Int)) : rd (A ++ x :: B) i = x := by
  subst h; simp [rd, List.getD]
theorem QP {α : Type} (A : List α) (x y : α) (B : List α) {i : Int} (h : i = (A.length : Int)) : (A ++ x :: B).set (Int.toNat i) y = A ++ y :: B := by
  subst h; simp
def zV (s : List UInt8) (i : Nat) : Nat := (s.getD i 0).toNat
theorem jD (s : List UInt8) (i : Nat) : zV s i < 256 := (s.getD i 0).toNat_lt
theorem Zj {s : List UInt8} {i : Nat} : ((rd s (i : Int)).toNat : Int) = (zV s i : Int) := by
  simp only [rd, zV, Int.toNat_natCast]; rfl
theorem Z1 {n : Nat} (h : n < 9223372036854775808) : yN .i64 (n : Int) 3 = ((n % 4 : Nat) : Int) := by
  have := Qn (a := n) (b := 3) h (by decide)
  rw [show ((3 : Nat) : Int) = 3 from rfl] at this
  rw [this, show n &&& 3 = n % 4 from Nat.and_two_pow_sub_one_eq_mod n 2]
def QY (w : Nat) : Prop := w = 1 ∨ w = 2 ∨ w = 4 ∨ w = 8
def zv (s : List UInt8) (at_ : Nat) : Nat → Nat
  | 0 => 0
  | w + 1 => zv s at_ w * 256 + zV s (at_ + w)
theorem y5 (s : List UInt8) (at_ : Nat) : ∀ w, zv s at_ w < 256 ^ w
  | 0 => by simp [zv]
  | w + 1 => by
    have := y5 s at_ w
    have h2 := jD s (at_ + w)
    rw [zv, Nat.pow_succ]; omega
def xo (s : List UInt8) (w : Nat) : Nat → Nat
  | 0 => 0
  | i + 1 => xo s w i + zV s (w - 1 - i) * 2 ^ (8 * i)
theorem ve (s : List UInt8) (w : Nat) : ∀ i, xo s w i < 2 ^ (8 * i)
  | 0 => by simp [xo]
  | i + 1 => by
    have := ve s w i
    have h2 := jD s (w - 1 - i)
    have h3 : zV s (w - 1 - i) * 2 ^ (8 * i) ≤ 255 * 2 ^ (8 * i) := Nat.mul_le_mul_right _ (by omega)
    rw [xo, show 8 * (i + 1) = 8 * i + 8 by omega, Nat.pow_add]; omega
theorem vd (s : List UInt8) (w : Nat) : ∀ i, i ≤ w → zv s 0 w = zv s 0 (w - i) * 2 ^ (8 * i) + xo s w i
  | 0, _ => by simp [xo]
  | i + 1, h => by
    rw [vd s w i (by omega), xo]
    have e : w - i = (w - (i + 1)) + 1 := by omega
    rw [e, zv, Nat.zero_add, show w - 1 - i = w - (i + 1) by omega, show 8 * (i + 1) = 8 + 8 * i by omega, Nat.pow_add, Nat.add_mul, Nat.mul_assoc, show (2 : Nat) ^ 8 = 256 from rfl]
    omega
theorem ul (s : List UInt8) (at_ w i : Nat) (h : i < w) : zV ((s.drop at_).take w) i = zV s (at_ + i) := by
  unfold zV
  rw [List.getD_eq_getElem?_getD, List.getD_eq_getElem?_getD, List.getElem?_take, if_pos h, List.getElem?_drop]
theorem jw (s : List UInt8) (at_ w j : Nat) : ∀ i, j + i ≤ w → zv ((s.drop at_).take w) j i = zv s (at_ + j) i
  | 0, _ => rfl
  | i + 1, h => by rw [zv, zv, jw s at_ w j i (by omega), ul s at_ w (j + i) (by omega), Nat.add_assoc]
theorem Qf (s : List UInt8) (at_ w : Nat) (i : Nat) (h : i ≤ w) : zv ((s.drop at_).take w) 0 i = zv s at_ i := jw s at_ w 0 i (by omega)
theorem uZ (a b : List UInt8) (i : Nat) : zV (a ++ b) (a.length + i) = zV b i := by
  unfold zV
  rw [List.getD_eq_getElem?_getD, List.getD_eq_getElem?_getD, List.getElem?_append_right (by omega), Nat.add_sub_cancel_left]
theorem uE (a b : List UInt8) (i : Nat) : ∀ w, zv (a ++ b) (a.length + i) w = zv b i w
  | 0 => rfl
  | w + 1 => by rw [zv, zv, uE a b i w, Nat.add_assoc, uZ]
def z2 : Nat → Nat → List UInt8
  | 0, _ => []
  | w + 1, A => UInt8.ofNat (A / 256 ^ w % 256) :: z2 w A
theorem zr : ∀ w A, (z2 w A).length = w
  | 0, _ => rfl
  | w + 1, A => by rw [z2, List.length_cons, zr w A]
theorem uk (x : UInt8) (l : List UInt8) (i : Nat) : zV (x :: l) (i + 1) = zV l i := by
  unfold zV; rw [List.getD_cons_succ]
theorem vD (x : UInt8) (l : List UInt8) (i : Nat) : ∀ w, zv (x :: l) (i + 1) w = zv l i w
  | 0 => rfl
  | w + 1 => by rw [zv, zv, vD x l i w, show i + 1 + w = (i + w) + 1 by omega, uk]
theorem j5 (s : List UInt8) (i : Nat) : ∀ w, zv s i (w + 1) = zV s i * 256 ^ w + zv s (i + 1) w
  | 0 => by simp [zv]
  | w + 1 => by
    rw [zv, j5 s i w, zv, show i + (w + 1) = i + 1 + w by omega, Nat.pow_succ, Nat.add_mul, Nat.mul_assoc, Nat.add_assoc]
theorem vn (A : Nat) (r : List UInt8) : ∀ w, zv (z2 w A ++ r) 0 w = A % 256 ^ w
  | 0 => by simp [zv, Nat.mod_one]
  | w + 1 => by
    rw [j5, z2, List.cons_append, Nat.zero_add, show (1 : Nat) = 0 + 1 from rfl, vD, vn A r w]
    have : zV (UInt8.ofNat (A / 256 ^ w % 256) :: (z2 w A ++ r)) 0 = A / 256 ^ w % 256 := by simp [zV]
    rw [this, Nat.pow_succ, Nat.mod_mul, Nat.add_comm, Nat.mul_comm]
theorem vm (p : List UInt8) (A : Nat) (r : List UInt8) (w : Nat) : zv (p ++ (z2 w A ++ r)) p.length w = A % 256 ^ w := by
  have := uE p (z2 w A ++ r) 0 w
  rw [Nat.add_zero] at this
  rw [this, vn]
def QU (i : Nat) : List UInt8 → Nat
  | [] => 0
  | x :: r => x.toNat * 256 ^ (3 - i % 4) + QU (i + 1) r
def xQ (s : List UInt8) : Nat := QU 0 s % 4294967296
theorem ue (s : List UInt8) : xQ s < 4294967296 := Nat.mod_lt _ (by decide)
end Go.Pn

set_option maxRecDepth 100000
namespace Go.Pn
open Go Go.Sl Go.Pu Go.Mo
theorem jn (K : Nat) (w : Nat) (hw : QY w) : xn.m K (w : Int) = .ok true := by
  rcases hw with rfl | rfl | rfl | rfl <;> rfl
theorem QS (K : Nat) (v : List UInt8) (w : Nat) (hw : w ≤ 8) (hv : v.length = w) : ∀ (j k i : Nat), i + j = w → j < k →
    qp.l1 K (w : Int) v k (xo v w i : Int) (i : Int) = .ok ((zv v 0 w : Int), 0) := by
  intro j
  induction j with
  | zero =>
    intro k i hi hk
    obtain ⟨k, rfl⟩ : ∃ m, k = m + 1 := ⟨k - 1, by omega⟩
    rw [qp.l1]
    have := vd v w w (Nat.le_refl _)
    rw [Nat.sub_self] at this
    have e : xo v w i = zv v 0 w := by
      rw [show i = w by omega, this]; simp [zv]
    simp (disch := omega) only [qE.bind_ok, qE.bind_pan, qt, qP, ua, cond_true, cond_false, qN, yK, yh, yi, vH, jx, qD, vy, xH, zT, xb, uq, z9, xP, zo, y6, Int.toNat_natCast, if_neg, e]
  | succ j ih =>
    intro k i hi hk
    obtain ⟨k, rfl⟩ : ∃ m, k = m + 1 := ⟨k - 1, by omega⟩
    rw [qp.l1]
    unfold zk.m
    have e1 : (w : Int) - 1 - (i : Int) = ((w - 1 - i : Nat) : Int) := by omega
    have e2 : (8 : Int) * (i : Int) = ((8 * i : Nat) : Int) := by omega
    have e6 : (i : Int) + 1 = ((i + 1 : Nat) : Int) := by push_cast; rfl
    have hb := jD v (w - 1 - i)
    simp (disch := omega) only [qE.bind_ok, qE.bind_pan, qt, qP, ua, cond_true, cond_false, qN, yK, yh, yi, vH, jx, qD, vy, xH, zT, xb, uq, z9, xP, zo, y6, Int.toNat_natCast, if_pos, e1, e2, e6, Zj]
    have hpow : 2 ^ (8 * i) ≤ 2 ^ 56 := Nat.pow_le_pow_right (by decide) (by omega)
    have hm : zV v (w - 1 - i) * 2 ^ (8 * i) ≤ 255 * 2 ^ (8 * i) := Nat.mul_le_mul_right _ (by omega)
    have hl := ve v w i
    rw [Qw (by omega) (by omega), Q7 (by omega) (by omega)]
    have e3 : xo v w i ||| zV v (w - 1 - i) * 2 ^ (8 * i) = xo v w (i + 1) := by
      rw [Nat.or_comm, Nat.mul_comm, ← Nat.two_pow_add_eq_or_of_lt hl, xo, Nat.mul_comm]; omega
    rw [e3]
    exact ih k (i + 1) (by omega) (by omega)
def v9 (s : List UInt8) (at_ w : Nat) : Nat × Int := if at_ + w ≤ s.length then (zv s at_ w, 0) else (0, 2)
theorem yU (K : Nat) (s : List UInt8) (base : Int) (at_ n : Nat) (hs : s.length < 140737488355328) (ha : at_ < 9223372036854775808) (hn : n < 9223372036854775808) (hb0 : 0 ≤ base) (hb1 : base < 140737488355328) :
    q9.m K ⟨s, base⟩ (at_ : Int) (n : Int) = if at_ + n ≤ s.length then .ok ((s.drop at_).take n, base + at_, 0) else .ok ([], 0, 2) := by
  unfold q9.m
  have h0 : (decide ((at_ : Int) < 0) || decide ((n : Int) < 0)) = false := by rw [Bool.or_eq_false_iff]; exact ⟨decide_eq_false (by omega), decide_eq_false (by omega)⟩
  rw [h0, cond_false]
  dsimp only
  by_cases h : at_ + n ≤ s.length
  · have h1 : (decide ((at_ : Int) > (s.length : Int)) || decide ((n : Int) > qJ ((s.length : Int) - (at_ : Int)))) = false := by
      rw [Bool.or_eq_false_iff, qD (by omega) (by omega)]; exact ⟨decide_eq_false (by omega), decide_eq_false (by omega)⟩
    have e : qJ ((at_ : Int) + (n : Int)) = ((at_ + n : Nat) : Int) := by rw [qD (by omega) (by omega)]; push_cast; rfl
    rw [h1, cond_false, if_pos h, e, z9 (by omega) (by omega) (by omega), Zp, Nat.add_sub_cancel_left, qD (by omega) (by omega)]
    rfl
  · have h1 : (decide ((at_ : Int) > (s.length : Int)) || decide ((n : Int) > qJ ((s.length : Int) - (at_ : Int)))) = true := by
      rw [Bool.or_eq_true, decide_eq_true_eq, decide_eq_true_eq]
      by_cases h2 : at_ > s.length
      · left; omega
      · right; rw [qD (by omega) (by omega)]; omega
    rw [h1, cond_true, if_neg h]
theorem QR (K : Nat) (s : List UInt8) (base : Int) (at_ w : Nat) (hw : QY w) (hs : s.length < 140737488355328) (ha : at_ < 9223372036854775808) (hb0 : 0 ≤ base) (hb1 : base < 140737488355328) (hK : 8 < K) :
    qp.m K ⟨s, base⟩ (at_ : Int) (w : Int) = .ok (((v9 s at_ w).1 : Int), (v9 s at_ w).2) := by
  unfold qp.m v9
  have hw8 : w ≤ 8 := by unfold QY at hw; omega
  rw [jn K w hw, yU K s base at_ w hs ha (by omega) hb0 hb1]
  simp only [qE.bind_ok, Bool.not_true, cond_false]
  by_cases h : at_ + w ≤ s.length
  · rw [if_pos h, if_pos h]
    have z : ((0 : Int) != 0) = false := rfl
    simp only [qE.bind_ok, z, cond_false, zz.m]
    have hl : ((s.drop at_).take w).length = w := by simp; omega
    have := QS K ((s.drop at_).take w) w hw8 hl w K 0 (by omega) (by omega)
    rw [Qf s at_ w w (Nat.le_refl _)] at this
    exact this
  · rw [if_neg h, if_neg h]
    rfl
theorem QJ (K : Nat) (w : Nat) (hw : QY w) : xC.m K (w : Int) = .ok true := by
  rcases hw with rfl | rfl | rfl | rfl <;> rfl
def ut : List UInt8 := [0, 1, 2, 2, 3, 3, 3, 3, 4, 4, 4, 4, 4, 4, 4, 4, 5, 5, 5, 5, 5, 5, 5, 5, 5, 5, 5, 5, 5, 5, 5, 5, 6, 6, 6, 6, 6, 6, 6, 6, 6, 6, 6, 6, 6, 6, 6, 6, 6, 6, 6, 6, 6, 6, 6, 6, 6, 6, 6, 6, 6, 6, 6, 6, 7, 7, 7, 7, 7, 7, 7, 7, 7, 7, 7, 7, 7, 7, 7, 7, 7, 7, 7, 7, 7, 7, 7, 7, 7, 7, 7, 7, 7, 7, 7, 7, 7, 7, 7, 7, 7, 7, 7, 7, 7, 7, 7, 7, 7, 7, 7, 7, 7, 7, 7, 7, 7, 7, 7, 7, 7, 7, 7, 7, 7, 7, 7, 7, 8, 8, 8, 8, 8, 8, 8, 8, 8, 8, 8, 8, 8, 8, 8, 8, 8, 8, 8, 8, 8, 8, 8, 8, 8, 8, 8, 8, 8, 8, 8, 8, 8, 8, 8, 8, 8, 8, 8, 8, 8, 8, 8, 8, 8, 8, 8, 8, 8, 8, 8, 8, 8, 8, 8, 8, 8, 8, 8, 8, 8, 8, 8, 8, 8, 8, 8, 8, 8, 8, 8, 8, 8, 8, 8, 8, 8, 8, 8, 8, 8, 8, 8, 8, 8, 8, 8, 8, 8, 8, 8, 8, 8, 8, 8, 8, 8, 8, 8, 8, 8, 8, 8, 8, 8, 8, 8, 8, 8, 8, 8, 8, 8, 8, 8, 8, 8, 8, 8, 8, 8, 8, 8, 8, 8, 8, 8, 8]
theorem u5 : ∀ v : Nat, v < 256 → ∀ m : Nat, m < 9 → ((rd ut (v : Int)).toNat ≤ m ↔ v < 2 ^ m) := by decide +kernel
def jk (x r : Nat) : Prop := ∀ m : Nat, r ≤ m ↔ x < 2 ^ m
theorem vS {x r : Nat} (hx : x < 256) (h : ∀ m, m < 9 → (r ≤ m ↔ x < 2 ^ m)) : jk x r := by
  intro m
  by_cases hm : m < 9
  · exact h m hm
  · have h8 := (h 8 (by omega)).2 (by omega)
    have : 2 ^ 8 ≤ 2 ^ m := Nat.pow_le_pow_right (by decide) (by omega)
    constructor <;> intro _ <;> omega
theorem yG {x r j : Nat} (hx : 2 ^ j ≤ x) (h : jk (x / 2 ^ j) r) : jk x (j + r) := by
  intro m
  by_cases hm : j ≤ m
  · have e : x / 2 ^ j < 2 ^ (m - j) ↔ x < 2 ^ m := by
      rw [Nat.div_lt_iff_lt_mul (Nat.two_pow_pos j), ← Nat.pow_add, show m - j + j = m by omega]
    rw [← e, ← h (m - j)]; omega
  · have : 2 ^ m < 2 ^ j := Nat.pow_lt_pow_right (by decide) (by omega)
    constructor <;> intro _ <;> omega
theorem vT (K x n : Nat) (hx : x < 256) (hn : n ≤ 64) : ∃ r : Nat, jk x r ∧ ql.j3 K (x : Int) (n : Int) = .ok ((n + r : Nat) : Int) := by
  have ht := u5 x hx
  have e : wr .u8 (x : Int) = (x : Int) := vy (by omega) (by omega)
  unfold ql.j3
  rw [e, zI (by simpa using hx), qt, qP]
  show ∃ r : Nat, jk x r ∧ qE.ok (qJ ((n : Int) + wr .i64 (((rd ut (x : Int)).toNat : Nat) : Int))) = .ok ((n + r : Nat) : Int)
  generalize (rd ut (x : Int)).toNat = q at ht ⊢
  have hq := (ht 8 (by omega)).2 (by omega)
  have e2 : wr .i64 (q : Int) = (q : Int) := xb (by omega) (by omega)
  rw [e2, qD (by omega) (by omega)]
  exact ⟨q, vS hx ht, by rw [Int.natCast_add]⟩
theorem Z3 (K x : Nat) (hx : x < 18446744073709551616) : ∃ r : Nat, jk x r ∧ ql.m K (x : Int) = .ok (r : Int) := by
  have j2 : ∀ y n : Nat, y < 65536 → n ≤ 48 → ∃ r : Nat, jk y r ∧ ql.j2 K (y : Int) (n : Int) = .ok ((n + r : Nat) : Int) := by
    intro y n hy hn
    unfold ql.j2
    rw [qN]
    by_cases h : y ≥ 256
    · have e : xB .u64 (y : Int) 8 = ((y / 256 : Nat) : Int) := yO (n := 8) (by decide)
      rw [if_pos (by omega), qP, qP, e, qD (by omega) (by omega), show (n : Int) + 8 = ((n + 8 : Nat) : Int) from by omega]
      obtain ⟨r, hr, h2⟩ := vT K (y / 256) (n + 8) (by omega) (by omega)
      exact ⟨8 + r, yG (j := 8) (by omega) hr, by rw [h2, Nat.add_assoc]⟩
    · rw [if_neg (by omega)]
      exact vT K y n (by omega) (by omega)
  have j1 : ∀ y n : Nat, y < 4294967296 → n ≤ 32 → ∃ r : Nat, jk y r ∧ ql.j1 K (y : Int) (n : Int) = .ok ((n + r : Nat) : Int) := by
    intro y n hy hn
    unfold ql.j1
    rw [qN]
    by_cases h : y ≥ 65536
    · have e : xB .u64 (y : Int) 16 = ((y / 65536 : Nat) : Int) := yO (n := 16) (by decide)
      rw [if_pos (by omega), qP, qP, e, qD (by omega) (by omega), show (n : Int) + 16 = ((n + 16 : Nat) : Int) from by omega]
      obtain ⟨r, hr, h2⟩ := j2 (y / 65536) (n + 16) (by omega) (by omega)
      exact ⟨16 + r, yG (j := 16) (by omega) hr, by rw [h2, Nat.add_assoc]⟩
    · rw [if_neg (by omega)]
      exact j2 y n (by omega) (by omega)
  unfold ql.m
  rw [qN]
  by_cases h : x ≥ 4294967296
  · have e : xB .u64 (x : Int) 32 = ((x / 4294967296 : Nat) : Int) := yO (n := 32) (by decide)
    rw [if_pos (by omega), qP, e, show (32 : Int) = ((32 : Nat) : Int) from rfl]
    obtain ⟨r, hr, h2⟩ := j1 (x / 4294967296) 32 (by omega) (by omega)
    exact ⟨32 + r, yG (j := 32) (by omega) hr, h2⟩
  · rw [if_neg (by omega), show (0 : Int) = ((0 : Nat) : Int) from rfl]
    obtain ⟨r, hr, h2⟩ := j1 x 0 (by omega) (by omega)
    rw [Nat.zero_add] at h2
    exact ⟨r, hr, h2⟩
theorem uc (K A w : Nat) (hw : w ≤ 8) (z : List Int) (hz : z.length = w) : ∀ (j k i : Nat), i + j = w → j < k →
    qS.l1 K (A : Int) (w : Int) z k (List.replicate (w - i) 0 ++ (z2 i A).map x4) (i : Int) = .ok (z2 w A, 0) := by
  intro j
  induction j with
  | zero =>
    intro k i hi hk
    obtain ⟨k, rfl⟩ : ∃ m, k = m + 1 := ⟨k - 1, by omega⟩
    have : i = w := by omega
    subst this
    rw [qS.l1, qN, if_neg (by omega), qP, Nat.sub_self]
    simp only [List.replicate_zero, List.nil_append, xN]
  | succ j ih =>
    intro k i hi hk
    obtain ⟨k, rfl⟩ : ∃ m, k = m + 1 := ⟨k - 1, by omega⟩
    have e1 : qJ (qJ ((w : Int) - 1) - (i : Int)) = ((w - 1 - i : Nat) : Int) := by rw [qD (x := (w : Int) - 1) (by omega) (by omega), qD (by omega) (by omega)]; omega
    have e2 : qJ ((8 : Int) * (i : Int)) = ((8 * i : Nat) : Int) := by rw [qD (by omega) (by omega)]; omega
    have e3 : qJ ((i : Int) + 1) = ((i + 1 : Nat) : Int) := by rw [qD (by omega) (by omega)]; omega
    have hl : (List.replicate (w - i) (0 : Int) ++ (z2 i A).map x4).length = w := by simp only [List.length_append, List.length_replicate, List.length_map, zr]; omega
    have hset : (List.replicate (w - i) (0 : Int) ++ (z2 i A).map x4).set (w - 1 - i) ((A / 256 ^ i % 256 : Nat) : Int) = List.replicate (w - (i + 1)) 0 ++ (z2 (i + 1) A).map x4 := by
      have e : List.replicate (w - i) (0 : Int) ++ (z2 i A).map x4 = List.replicate (w - (i + 1)) 0 ++ 0 :: (z2 i A).map x4 := by
        rw [show w - i = (w - (i + 1)) + 1 by omega, List.replicate_succ']; simp
      have := QP (List.replicate (w - (i + 1)) (0 : Int)) 0 ((A / 256 ^ i % 256 : Nat) : Int) ((z2 i A).map x4) (i := ((w - 1 - i : Nat) : Int)) (by rw [List.length_replicate]; omega)
      rw [e, Int.toNat_natCast] at *
      rw [this, z2, List.map_cons, vh (Nat.mod_lt _ (by decide))]
    rw [qS.l1, qN, if_pos (by omega), e2, y6 (by omega), qt]
    unfold zk.m
    rw [e1, qP, qE.bind_ok, zI (by rw [hl]; omega), qt, qP, e3, yO (show 8 * i ≤ 64 by omega), uf, show 2 ^ (8 * i) = 256 ^ i from by rw [Nat.pow_mul], Int.toNat_natCast, hset]
    exact ih k (i + 1) (by omega) (by omega)
def x6 (w A : Nat) : List UInt8 × Int := if A < 256 ^ w then (z2 w A, 0) else ([], 10)
theorem ub (K A w : Nat) (hw : QY w) (hA : A < 18446744073709551616) (hK : 8 < K) : qS.m K (A : Int) (w : Int) = .ok (x6 w A) := by
  have hw8 : w ≤ 8 := by unfold QY at hw; omega
  obtain ⟨r, hr, h⟩ := Z3 K A hA
  unfold qS.m x6
  rw [jn K w hw, qE.bind_ok, Bool.not_true, cond_false, h, qE.bind_ok, qN, qD (by omega) (by omega)]
  have hm := hr (8 * w)
  rw [Nat.pow_mul, show (2 : Nat) ^ 8 = 256 from rfl] at hm
  by_cases hf : A < 256 ^ w
  · have := hm.2 hf
    have hl := uc K A w hw8 (List.replicate w 0) (List.length_replicate ..) w K 0 (by omega) (by omega)
    simp only [Nat.sub_zero, z2, List.map_nil, List.append_nil] at hl
    rw [if_pos hf, if_neg (by omega)]
    unfold zz.m
    rw [qE.bind_ok, y6 (by omega), Bool.true_and, xP (by omega), qt, qP, Int.toNat_natCast]
    exact hl
  · rw [if_neg hf, if_pos (by omega)]
theorem v3 (K A w : Nat) (hw : w ≤ 8) (hA : A < 18446744073709551616) : ∀ (j k i : Nat), i + j = w → j < k →
    qs.l1 K (w : Int) true k ((A / 256 ^ i : Nat) : Int) (List.replicate (w - i) 0 ++ (z2 i A).map x4) (i : Int) = .ok (x6 w A) := by
  intro j
  induction j with
  | zero =>
    intro k i hi hk
    obtain ⟨k, rfl⟩ : ∃ m, k = m + 1 := ⟨k - 1, by omega⟩
    have : i = w := by omega
    subst this
    rw [qs.l1, qN, if_neg (by omega)]
    unfold qs.j3 x6
    rw [qN]
    by_cases hf : A < 256 ^ i
    · rw [if_pos hf, Nat.div_eq_of_lt hf, if_neg (by omega), qP, Nat.sub_self]
      simp only [List.replicate_zero, List.nil_append, xN]
    · have : 0 < A / 256 ^ i := Nat.div_pos (by omega) (Nat.pow_pos (by decide))
      rw [if_neg hf, if_pos (by omega)]
  | succ j ih =>
    intro k i hi hk
    obtain ⟨k, rfl⟩ : ∃ m, k = m + 1 := ⟨k - 1, by omega⟩
    have hle : A / 256 ^ i ≤ A := Nat.div_le_self _ _
    have e1 : qJ (qJ ((w : Int) - 1) - (i : Int)) = ((w - 1 - i : Nat) : Int) := by rw [qD (x := (w : Int) - 1) (by omega) (by omega), qD (by omega) (by omega)]; omega
    have e3 : qJ ((i : Int) + 1) = ((i + 1 : Nat) : Int) := by rw [qD (by omega) (by omega)]; omega
    have hl : (List.replicate (w - i) (0 : Int) ++ (z2 i A).map x4).length = w := by simp only [List.length_append, List.length_replicate, List.length_map, zr]; omega
    have hset : (List.replicate (w - i) (0 : Int) ++ (z2 i A).map x4).set (w - 1 - i) ((A / 256 ^ i % 256 : Nat) : Int) = List.replicate (w - (i + 1)) 0 ++ (z2 (i + 1) A).map x4 := by
      have e : List.replicate (w - i) (0 : Int) ++ (z2 i A).map x4 = List.replicate (w - (i + 1)) 0 ++ 0 :: (z2 i A).map x4 := by
        rw [show w - i = (w - (i + 1)) + 1 by omega, List.replicate_succ']; simp
      have := QP (List.replicate (w - (i + 1)) (0 : Int)) 0 ((A / 256 ^ i % 256 : Nat) : Int) ((z2 i A).map x4) (i := ((w - 1 - i : Nat) : Int)) (by rw [List.length_replicate]; omega)
      rw [e, Int.toNat_natCast] at *
      rw [this, z2, List.map_cons, vh (Nat.mod_lt _ (by decide))]
    have e5 : jW ((A / 256 ^ i : Nat) : Int) 256 = ((A / 256 ^ i % 256 : Nat) : Int) := vR (b := 256)
    have e6 : jV .u64 ((A / 256 ^ i : Nat) : Int) 256 = ((A / 256 ^ (i + 1) : Nat) : Int) := by
      unfold jV
      have e : Int.tdiv ((A / 256 ^ i : Nat) : Int) 256 = ((A / 256 ^ i / 256 : Nat) : Int) := (Int.ofNat_tdiv (A / 256 ^ i) 256).symm
      rw [e, Nat.div_div_eq_div_mul, show 256 ^ i * 256 = 256 ^ (i + 1) from (Nat.pow_succ ..).symm]
      have := Nat.div_le_self A (256 ^ (i + 1))
      generalize A / 256 ^ (i + 1) = z at this
      exact zT (by omega) (by omega)
    rw [qs.l1, qN, if_pos (by omega), cond_true, qP]
    unfold qs.j2
    rw [e1, zI (by rw [hl]; omega), qt, qP, qP, qP, e3, e5, e6, uf, Nat.mod_mod, Int.toNat_natCast, hset]
    exact ih k (i + 1) (by omega) (by omega)
theorem v2 (K A w : Nat) (hw : QY w) (hA : A < 18446744073709551616) (hK : 8 < K) : qs.m K (A : Int) (w : Int) true = .ok (x6 w A) := by
  have hw8 : w ≤ 8 := by unfold QY at hw; omega
  have hl := v3 K A w hw8 hA w K 0 (by omega) (by omega)
  simp only [Nat.sub_zero, z2, List.map_nil, List.append_nil, Nat.pow_zero, Nat.div_one] at hl
  unfold qs.m
  rw [QJ K w hw, qE.bind_ok, Bool.not_true, cond_false, y6 (by omega), Bool.true_and, xP (by omega), qt, qP, Int.toNat_natCast]
  exact hl
theorem vr (K : Nat) (s : List UInt8) (hs : s.length < 140737488355328) : ∀ (k : Nat) (D T : List UInt8) (n : Nat), D ++ T = s → T.length < k → n < 4294967296 →
    zh.l1 K s k (n : Int) (D.length : Int) = .ok (((n + QU D.length T) % 4294967296 : Nat) : Int) := by
  intro k
  induction k with
  | zero => intro D T n _ h; omega
  | succ k ih =>
    intro D T n h1 hk hn
    have hlen : D.length + T.length = s.length := by rw [← h1]; simp
    rw [zh.l1, qN]
    cases T with
    | nil =>
      rw [if_neg (by simp only [List.length_nil] at hlen; omega), QU, Nat.add_zero, Nat.mod_eq_of_lt hn]
    | cons x T =>
      simp only [List.length_cons] at hlen hk
      have e1 : rd s (D.length : Int) = x := by rw [← h1]; exact jK D x T rfl
      have e3 : qJ ((D.length : Int) + 1) = ((D ++ [x]).length : Int) := by rw [qD (by omega) (by omega)]; simp
      have hx := x.toNat_lt
      have hd : D.length % 4 < 4 := Nat.mod_lt _ (by decide)
      have e4 : qJ ((24 : Int) - qJ (8 * ((D.length % 4 : Nat) : Int))) = ((24 - 8 * (D.length % 4) : Nat) : Int) := by
        rw [qD (x := 8 * _) (by omega) (by omega), qD (by omega) (by omega)]; omega
      have hpow : 2 ^ (24 - 8 * (D.length % 4)) = 256 ^ (3 - D.length % 4) := by rw [show 24 - 8 * (D.length % 4) = 8 * (3 - D.length % 4) by omega, Nat.pow_mul]
      have hple : 256 ^ (3 - D.length % 4) ≤ 256 ^ 3 := Nat.pow_le_pow_right (by decide) (by omega)
      have hm : x.toNat * 256 ^ (3 - D.length % 4) ≤ 255 * 256 ^ 3 := Nat.mul_le_mul (by omega) hple
      rw [if_pos (by omega), zI (by omega), qt, e1, Z1 (by omega), e4, y6 (by omega), qt, qP, xH (x := ((x.toNat : Nat) : Int)) (by omega) (by omega), Qv (by omega) (by rw [hpow]; omega), hpow, Zz, e3]
      have e5 : ((n : Int) + ((x.toNat * 256 ^ (3 - D.length % 4) : Nat) : Int)) % 4294967296 = (((n + x.toNat * 256 ^ (3 - D.length % 4)) % 4294967296 : Nat) : Int) := by omega
      rw [e5, ih (D ++ [x]) T _ (by rw [← h1]; simp) (by omega) (Nat.mod_lt _ (by decide)), QU, List.length_append, List.length_singleton]
      congr 2
      omega
theorem vi (K : Nat) (s : List UInt8) (hs : s.length < 140737488355328) (hK : s.length < K) : zh.m K s = .ok ((xQ s : Nat) : Int) := by
  have := vr K s hs K [] s 0 rfl hK (by decide)
  rw [Nat.zero_add] at this
  exact this
end Go.Pn

set_option maxRecDepth 100000
namespace Go.Pn
open Go Go.Sl Go.Pu Go.Mo
abbrev Tb := qb
theorem Qh : ∀ a b : List UInt8, (Op.bytesLess a b || a == b) = !Op.bytesLess b a
  | [], [] => rfl
  | [], _ :: _ => rfl
  | _ :: _, [] => rfl
  | x :: a, y :: b => by
    have ih := Qh a b
    simp only [Op.bytesLess]
    have hxy : x < y ↔ x.toNat < y.toNat := UInt8.lt_iff_toNat_lt
    have hyx : y < x ↔ y.toNat < x.toNat := UInt8.lt_iff_toNat_lt
    have heq : x = y ↔ x.toNat = y.toNat := UInt8.toNat_inj.symm
    by_cases h1 : x = y
    · subst h1
      have hn : ¬ x < x := by rw [hxy]; omega
      have e : (x :: a == x :: b) = (a == b) := by simp
      rw [e, decide_eq_false hn]
      simp only [beq_self_eq_true, Bool.true_and, Bool.false_or]
      exact ih
    · have e : (x :: a == y :: b) = false := by simp [h1]
      have e1 : (x == y) = false := by simp [h1]
      have e2 : (y == x) = false := by simp; exact fun h => h1 h.symm
      rw [e, e1, e2]
      simp only [Bool.false_and, Bool.or_false]
      by_cases h2 : x < y
      · rw [decide_eq_true h2, decide_eq_false (by rw [hyx]; rw [hxy] at h2; omega)]; rfl
      · have : y < x := by rw [hyx]; rw [hxy] at h2; rw [heq] at h1; omega
        rw [decide_eq_false h2, decide_eq_true this]; rfl
def ZX (x : UInt8) : Bool := decide (32 ≤ x.toNat ∧ x.toNat ≤ 126)
def j0 (s : List UInt8) : Bool := s.all ZX && decide (s.length = 4)
theorem xF {s : List UInt8} (h : j0 s = true) : s.length = 4 := by
  unfold j0 at h; rw [Bool.and_eq_true] at h; exact of_decide_eq_true h.2
theorem Qx (n : Nat) : ((n : Int) == (4 : Int)) = decide (n = 4) := by
  rw [Bool.eq_iff_iff]; simp only [beq_iff_eq, decide_eq_true_eq]; omega
theorem ux (K : Nat) (s : List UInt8) (hs : s.length ≤ 9223372036854775807) : ∀ (k : Nat) (D T : List UInt8), D ++ T = s → T.length < k →
    zb.l1 K s (s.map x4) k (D.length : Int) = .ok (T.all ZX && decide (s.length = 4)) := by
  intro k
  induction k with
  | zero => intro D T _ h; omega
  | succ k ih =>
    intro D T h1 hk
    have hlen : D.length + T.length = s.length := by rw [← h1]; simp
    rw [zb.l1, qN, List.length_map]
    cases T with
    | nil =>
      rw [if_neg (by simp only [List.length_nil] at hlen; omega), qP, List.all_nil, Bool.true_and, Qx]
    | cons x T =>
      simp only [List.length_cons] at hlen hk
      have e1 : rd (s.map x4) (D.length : Int) = x4 x := by rw [← h1, List.map_append, List.map_cons]; exact jK _ _ _ (by rw [List.length_map])
      have e3 : qJ ((D.length : Int) + 1) = ((D ++ [x]).length : Int) := by rw [qD (by omega) (by omega)]; simp
      have e4 : (decide (x4 x < (32 : Int)) || decide (x4 x > (126 : Int))) = !ZX x := by
        unfold ZX x4
        rw [Bool.eq_iff_iff]; simp only [Bool.or_eq_true, decide_eq_true_eq, Bool.not_eq_true', decide_eq_false_iff_not]; omega
      rw [if_pos (by omega), zI (by omega), qt, qP, e1, e4, e3, List.all_cons]
      cases hx : ZX x with
      | false => rfl
      | true =>
        rw [Bool.not_true, cond_false, Bool.true_and]
        exact ih (D ++ [x]) T (by rw [← h1]; simp) (by omega)
theorem uR (K : Nat) (s : List UInt8) (hs : s.length ≤ 9223372036854775807) (hK : s.length < K) : zb.m K s = .ok (j0 s) := by
  unfold zb.m
  rw [zo hs, qt, qP]
  exact ux K s hs K [] s rfl hK
def zF (n : Nat) : Nat := (n + 3) / 4 * 4
theorem Qe (x : BitVec 64) : x &&& ~~~ 3#64 = (x >>> 2) <<< 2 := by
  apply BitVec.eq_of_getLsbD_eq
  intro i hi
  rcases i with _ | _ | i
  · simp
  · simp
  · have : (3#64).getLsbD (i + 2) = false := by
      simp only [BitVec.getLsbD_ofNat]
      have : Nat.testBit 3 (i + 2) = false := by
        rw [Nat.testBit_eq_decide_div_mod_eq]
        have : 3 / 2 ^ (i + 2) = 0 := Nat.div_eq_of_lt (by rw [Nat.pow_add]; have := Nat.two_pow_pos i; omega)
        rw [this]; rfl
      rw [this]; simp
    rw [BitVec.getLsbD_and, BitVec.getLsbD_not, BitVec.getLsbD_shiftLeft, BitVec.getLsbD_ushiftRight, show i + 1 + 1 = i + 2 from rfl, this]
    have h2 : decide (i + 2 < 64) = true := decide_eq_true hi
    have h3 : decide (i + 2 < 2) = false := decide_eq_false (by omega)
    rw [h2, h3, show 2 + (i + 2 - 2) = i + 2 by omega]; simp
theorem ZW {n : Nat} (h : n < 9223372036854775804) : vN .i64 (n : Int) 3 = ((n / 4 * 4 : Nat) : Int) := by
  show IntKind.i64.wrap ((BitVec.ofInt 64 (n : Int) &&& ~~~ BitVec.ofInt 64 (3 : Int)).toNat : Int) = _
  have e : (BitVec.ofInt 64 (n : Int) &&& ~~~ BitVec.ofInt 64 (3 : Int)).toNat = n / 4 * 4 := by
    rw [yw, show BitVec.ofInt 64 (3 : Int) = 3#64 from rfl, Qe]; simp; omega
  rw [e]
  exact qD (by omega) (by omega)
theorem yx (K n : Nat) (h : n < 9223372036854775000) : zH.m K (n : Int) = .ok ((zF n : Nat) : Int) := by
  unfold zH.m zF
  rw [qD (by omega) (by omega), show (n : Int) + 3 = ((n + 3 : Nat) : Int) by omega, ZW (by omega), qP]
theorem w4 : QY 4 := .inr (.inr (.inl rfl))
theorem w2 : QY 2 := .inr (.inl rfl)
theorem uS (K n : Nat) (h : n < 4294967296) (hK : 8 < K) : yt.m K (n : Int) = .ok (z2 4 n) := by
  unfold yt.m
  have := ub K n 4 w4 (by omega) hK
  rw [show ((4 : Nat) : Int) = 4 from rfl] at this
  rw [zT (by omega) (by omega), this, qE.bind_ok]
  unfold x6
  rw [if_pos (by omega)]
theorem uQ (K n : Nat) (h : n < 65536) (hK : 8 < K) : yr.m K (n : Int) = .ok (z2 2 n) := by
  unfold yr.m
  have := ub K n 2 w2 (by omega) hK
  rw [show ((2 : Nat) : Int) = 2 from rfl] at this
  rw [zT (by omega) (by omega), this, qE.bind_ok]
  unfold x6
  rw [if_pos (by omega)]
theorem Xp (K n : Nat) (h : n < 4294967296) (hK : 8 < K) : xD.m K (n : Int) = .ok (z2 4 n) := by
  unfold xD.m
  have := v2 K n 4 w4 (by omega) hK
  rw [show ((4 : Nat) : Int) = 4 from rfl] at this
  rw [zT (by omega) (by omega), this, qE.bind_ok]
  unfold x6
  rw [if_pos (by omega)]
theorem Zk (K n : Nat) (h : n < 65536) (hK : 8 < K) : zx.m K (n : Int) = .ok (z2 2 n) := by
  unfold zx.m
  have := v2 K n 2 w2 (by omega) hK
  rw [show ((2 : Nat) : Int) = 2 from rfl] at this
  rw [zT (by omega) (by omega), this, qE.bind_ok]
  unfold x6
  rw [if_pos (by omega)]
def zw (kind n : Nat) : List UInt8 := (((z2 4 kind ++ z2 2 n) ++ z2 2 (16 * 2 ^ n.log2)) ++ z2 2 n.log2) ++ z2 2 (16 * (n - 2 ^ n.log2))
theorem xd (kind n : Nat) : (zw kind n).length = 12 := by simp [zw, zr]
theorem Q4 (K kind n : Nat) (hk : kind < 4294967296) (hn : n ≤ 1000) (hK : 8 < K) : ∀ (k e : Nat), 2 ^ e ≤ n → n < e + k →
    zn.l1 K (kind : Int) (n : Int) k ((2 ^ e : Nat) : Int) (e : Int) = .ok (zw kind n) ∧ zd.l1 K (kind : Int) (n : Int) k ((2 ^ e : Nat) : Int) (e : Int) = .ok (zw kind n) := by
  intro k
  induction k with
  | zero =>
    intro e h1 h2
    have := Nat.lt_two_pow_self (n := e)
    omega
  | succ k ih =>
    intro e h1 h2
    have hlt := Nat.lt_two_pow_self (n := e)
    have e2 : qJ ((2 : Int) * ((2 ^ e : Nat) : Int)) = ((2 ^ (e + 1) : Nat) : Int) := by rw [qD (by omega) (by omega), Nat.pow_succ]; omega
    have e2' : qJ (((2 ^ e : Nat) : Int) * 2) = ((2 ^ (e + 1) : Nat) : Int) := by rw [qD (by omega) (by omega), Nat.pow_succ]; omega
    have e1 : qJ ((e : Int) + 1) = ((e + 1 : Nat) : Int) := by rw [qD (by omega) (by omega)]; omega
    rw [zn.l1, zd.l1, qN, qN, e2]
    by_cases hc : 2 ^ (e + 1) ≤ n
    · rw [if_pos (by omega), if_pos (by omega), qP, qP, qP, qP, e1, e2']
      exact ih (e + 1) hc (by omega)
    · rw [if_neg (by omega), if_neg (by omega)]
      have hlog : n.log2 = e := (Nat.log2_eq_iff (by omega)).2 ⟨h1, by omega⟩
      have e3 : wr .i64 (kind : Int) = (kind : Int) := xb (by omega) (by omega)
      have e4 : qJ ((16 : Int) * ((2 ^ e : Nat) : Int)) = ((16 * 2 ^ e : Nat) : Int) := by rw [qD (by omega) (by omega)]; omega
      have e5 : qJ ((16 : Int) * qJ ((n : Int) - ((2 ^ e : Nat) : Int))) = ((16 * (n - 2 ^ e) : Nat) : Int) := by
        rw [qD (x := (n : Int) - _) (by omega) (by omega), qD (by omega) (by omega)]; omega
      unfold zw
      rw [hlog]
      constructor
      · rw [e3, uS K kind hk hK, qE.bind_ok, uQ K n (by omega) hK, qE.bind_ok, zo (by simp [zr]), qt, e4, uQ K _ (by omega) hK, qE.bind_ok, zo (by simp [zr]), qt,
          uQ K e (by omega) hK, qE.bind_ok, zo (by simp [zr]), qt, e5, uQ K _ (by omega) hK, qE.bind_ok, zo (by simp [zr]), qt, qP]
      · unfold zd.j2
        rw [e3, Xp K kind hk hK, qE.bind_ok, Zk K n (by omega) hK, qE.bind_ok, zo (by simp [zr]), qt, e4, Zk K _ (by omega) hK, qE.bind_ok, zo (by simp [zr]), qt,
          Zk K e (by omega) hK, qE.bind_ok, zo (by simp [zr]), qt, e5, Zk K _ (by omega) hK, qE.bind_ok, zo (by simp [zr]), qt, qP]
theorem vX (K kind n : Nat) (hk : kind < 4294967296) (h1 : 1 ≤ n) (hn : n ≤ 1000) (hK : 1000 < K) : zn.m K (kind : Int) (n : Int) = .ok (zw kind n) :=
  (Q4 K kind n hk hn (by omega) K 0 (by simpa using h1) (by omega)).1
def Z5 (p : Option (List UInt8)) (t : Tb) : Bool := j0 t.Tag_ && ((match p with | none => true | some q => Op.bytesLess q t.Tag_) && decide (t.Data_.length ≤ 16777216))
def vq : Option (List UInt8) → List Tb → Bool
  | _, [] => true
  | p, t :: r => Z5 p t && vq (some t.Tag_) r
def zZ : List Tb → Nat
  | [] => 0
  | t :: r => zF t.Data_.length + zZ r
def yT (D : List Tb) : Option (List UInt8) := D.getLast?.map (·.Tag_)
theorem jb (D : List Tb) (t : Tb) : yT (D ++ [t]) = some t.Tag_ := by simp [yT]
theorem Q2 (K : Nat) (l : List Tb) (hl : l.length ≤ 100000) (hb : ∀ t ∈ l, t.Tag_.length ≤ 9223372036854775807 ∧ t.Tag_.length < K) : ∀ (k : Nat) (D T : List Tb) (all : Nat), D ++ T = l → T.length < k → all + zZ T < 1099511627776 →
    qy.l1 K l k (all : Int) (D.length : Int) = .ok (vq (yT D) T && ((decide (0 < l.length) && decide (l.length ≤ 1000)) && decide (all + zZ T < 1073741824))) := by
  intro k
  induction k with
  | zero => intro D T all _ h; omega
  | succ k ih =>
    intro D T all h1 hk hall
    have hlen : D.length + T.length = l.length := by rw [← h1]; simp
    rw [qy.l1, qN]
    cases T with
    | nil =>
      rw [if_neg (by simp only [List.length_nil] at hlen; omega)]
      unfold qy.j3
      rw [qP, vq, Bool.true_and, zZ, Nat.add_zero]
      congr 1
      rw [show decide ((l.length : Int) > 0) = decide (0 < l.length) from by rw [decide_eq_decide]; omega, show decide ((l.length : Int) ≤ 1000) = decide (l.length ≤ 1000) from by rw [decide_eq_decide]; omega,
        show decide ((all : Int) < 1073741824) = decide (all < 1073741824) from by rw [decide_eq_decide]; omega]
    | cons t T =>
      simp only [List.length_cons] at hlen hk
      rw [zZ] at hall
      have e1 : rd l (D.length : Int) = t := by rw [← h1]; exact jK D t T rfl
      have ht := hb t (by rw [← h1]; simp)
      have e3 : qJ ((D.length : Int) + 1) = ((D ++ [t]).length : Int) := by rw [qD (by omega) (by omega)]; simp
      have hup : t.Data_.length ≤ zF t.Data_.length := by unfold zF; omega
      have next : qy.j2 K (qy.l1 K l k) l (all : Int) (D.length : Int) false = .ok (vq (some t.Tag_) T && ((decide (0 < l.length) && decide (l.length ≤ 1000)) && decide (all + zZ (t :: T) < 1073741824))) := by
        unfold qy.j2
        rw [cond_false, e1, yx K _ (by omega), qE.bind_ok, qD (by omega) (by omega), qP, e3, show (all : Int) + ((zF t.Data_.length : Nat) : Int) = ((all + zF t.Data_.length : Nat) : Int) by omega,
          ih (D ++ [t]) T _ (by rw [← h1]; simp) (by omega) (by omega), jb, zZ, Nat.add_assoc]
      have stop : ∀ g, qy.j2 K g l (all : Int) (D.length : Int) true = .ok false := fun g => rfl
      have eD : decide (((t.Data_.length : Nat) : Int) > 16777216) = !decide (t.Data_.length ≤ 16777216) := by
        rw [Bool.eq_iff_iff]; simp only [Bool.not_eq_true', decide_eq_true_eq, decide_eq_false_iff_not]; omega
      rw [if_pos (by omega), zI (by omega), qt, e1, uR K _ ht.1 ht.2, qE.bind_ok, eD, vq]
      unfold Z5
      cases htag : j0 t.Tag_ with
      | false => rw [cond_false, stop, Bool.false_and, Bool.false_and, Bool.false_and]
      | true =>
        rw [cond_true, qN, Bool.true_and]
        have dcase : ∀ b : Bool, qy.j2 K (qy.l1 K l k) l (all : Int) (D.length : Int) (!b) = .ok ((b && vq (some t.Tag_) T) && ((decide (0 < l.length) && decide (l.length ≤ 1000)) && decide (all + zZ (t :: T) < 1073741824))) := by
          intro b
          cases b with
          | false => rw [Bool.not_false, stop, Bool.false_and, Bool.false_and]
          | true => rw [Bool.not_true, next, Bool.true_and]
        rcases List.eq_nil_or_concat D with rfl | ⟨D', q, rfl⟩
        · rw [if_neg (by simp), dcase]; rfl
        · have e4 : qJ (((D'.concat q).length : Int) - 1) = (D'.length : Int) := by rw [qD (by omega) (by omega)]; simp
          have e5 : rd l (D'.length : Int) = q := by rw [← h1]; simp only [List.concat_eq_append, List.append_assoc, List.singleton_append]; exact jK D' q _ rfl
          have hi : (D'.concat q).length = D'.length + 1 := by simp
          rw [if_pos (by rw [hi]; omega), e4, zI (by rw [hi] at hlen; omega), qt, e5, yi]
          have ep : yT (D'.concat q) = some q.Tag_ := by rw [List.concat_eq_append]; exact jb D' q
          rw [ep]
          dsimp only
          cases hless : Op.bytesLess q.Tag_ t.Tag_ with
          | false => rw [cond_false, stop, Bool.false_and, Bool.false_and, Bool.false_and]
          | true => rw [cond_true, dcase, Bool.true_and]
theorem QD (K : Nat) (l : List Tb) (hl : l.length ≤ 100000) (hb : ∀ t ∈ l, t.Tag_.length ≤ 9223372036854775807 ∧ t.Tag_.length < K) (hs : zZ l < 1073741824) (hK : l.length < K) :
    qy.m K l = .ok (vq none l && (decide (0 < l.length) && decide (l.length ≤ 1000))) := by
  have := Q2 K l hl hb K [] l 0 rfl hK (by omega)
  rw [Nat.zero_add, decide_eq_true hs, Bool.and_true] at this
  exact this
def v8 : List Tb → Nat
  | [] => 0
  | t :: r => t.Data_.length + v8 r
theorem QQ (K : Nat) (l : List Tb) (hl : l.length ≤ 1001) : ∀ (k : Nat) (D T : List Tb) (n : Nat), D ++ T = l → T.length < k → n ≤ 105000 →
    ∃ b, qH.l1 K l k (n : Int) (D.length : Int) = .ok b ∧ (b = true → n + v8 T ≤ 105000 ∧ ∀ t ∈ T, t.Data_.length ≤ 5000) := by
  intro k
  induction k with
  | zero => intro D T n _ h; omega
  | succ k ih =>
    intro D T n h1 hk hn
    have hlen : D.length + T.length = l.length := by rw [← h1]; simp
    rw [qH.l1, qN]
    cases T with
    | nil =>
      rw [if_neg (by simp only [List.length_nil] at hlen; omega)]
      exact ⟨true, rfl, fun _ => ⟨by simpa [v8] using hn, by simp⟩⟩
    | cons t T =>
      simp only [List.length_cons] at hlen hk
      have e1 : rd l (D.length : Int) = t := by rw [← h1]; exact jK D t T rfl
      have e3 : qJ ((D.length : Int) + 1) = ((D ++ [t]).length : Int) := by rw [qD (by omega) (by omega)]; simp
      rw [if_pos (by omega), zI (by omega), qt, e1, jx, qN, qN]
      by_cases h5 : t.Data_.length > 5000
      · rw [if_pos (by omega)]; exact ⟨false, rfl, fun h => by cases h⟩
      · rw [if_neg (by omega)]
        by_cases h6 : n > 100000
        · rw [if_pos (by omega)]; exact ⟨false, rfl, fun h => by cases h⟩
        · rw [if_neg (by omega), qP, qP, e3, qD (by omega) (by omega), show (n : Int) + ((t.Data_.length : Nat) : Int) = ((n + t.Data_.length : Nat) : Int) by omega]
          obtain ⟨b, hb, h⟩ := ih (D ++ [t]) T (n + t.Data_.length) (by rw [← h1]; simp) (by omega) (by omega)
          refine ⟨b, hb, fun hbt => ?_⟩
          obtain ⟨q1, q2⟩ := h hbt
          refine ⟨by rw [v8]; omega, fun u hu => ?_⟩
          rcases List.mem_cons.1 hu with rfl | hu
          · omega
          · exact q2 u hu
theorem uV : ∀ l : List Tb, zZ l ≤ v8 l + 3 * l.length
  | [] => by simp [zZ]
  | t :: r => by
    have := uV r
    rw [zZ, v8, List.length_cons]; unfold zF; omega
theorem Z7 (K : Nat) (l : List Tb) (hK : 1002 ≤ K) : ∃ b, qH.m K l = .ok b ∧ (b = true → l.length ≤ 1001 ∧ v8 l ≤ 105000 ∧ zZ l ≤ 108003 ∧ ∀ t ∈ l, t.Data_.length ≤ 5000) := by
  unfold qH.m
  rw [qN]
  by_cases h : l.length > 1001
  · rw [if_pos (by omega)]; exact ⟨false, rfl, fun h => by cases h⟩
  · rw [if_neg (by omega)]
    obtain ⟨b, hb, h2⟩ := QQ K l (by omega) K [] l 0 rfl (by omega) (by omega)
    refine ⟨b, hb, fun hbt => ?_⟩
    obtain ⟨q1, q2⟩ := h2 hbt
    have := uV l
    exact ⟨by omega, by omega, by omega, q2⟩
theorem Zn (K : Nat) (l : List Tb) (hl : l.length ≤ 100000) : ∀ (k : Nat) (D T : List Tb), D ++ T = l → T.length < k → qG.l1 K l l k (D.length : Int) = .ok true := by
  intro k
  induction k with
  | zero => intro D T _ h; omega
  | succ k ih =>
    intro D T h1 hk
    have hlen : D.length + T.length = l.length := by rw [← h1]; simp
    rw [qG.l1, qN]
    cases T with
    | nil => rw [if_neg (by simp only [List.length_nil] at hlen; omega)]
    | cons t T =>
      simp only [List.length_cons] at hlen hk
      have e3 : qJ ((D.length : Int) + 1) = ((D ++ [t]).length : Int) := by rw [qD (by omega) (by omega)]; simp
      rw [if_pos (by omega), zI (by omega), qt, qt]
      simp only [beq_self_eq_true, Bool.and_self, Bool.not_true, cond_false, qP]
      rw [e3]
      exact ih (D ++ [t]) T (by rw [← h1]; simp) (by omega)
theorem same (K : Nat) (l : List Tb) (hl : l.length ≤ 100000) (hK : l.length < K) : qG.m K l l = .ok true := by
  unfold qG.m
  rw [show ((l.length : Int) != (l.length : Int)) = false from by simp, cond_false]
  exact Zn K l hl K [] l rfl hK
end Go.Pn

set_option maxRecDepth 100000
namespace Go.Pn
open Go Go.Sl Go.Pu Go.Mo
def jc (at_ : Nat) (t : Tb) : List UInt8 := ((t.Tag_ ++ z2 4 (xQ t.Data_)) ++ z2 4 at_) ++ z2 4 t.Data_.length
def jX (t : Tb) : List UInt8 := t.Data_ ++ List.replicate (zF t.Data_.length - t.Data_.length) 0
theorem yR (t : Tb) : (jX t).length = zF t.Data_.length := by simp [jX]; unfold zF; omega
def zg : Nat → List Tb → List UInt8
  | _, [] => []
  | at_, t :: r => jc at_ t ++ zg (at_ + zF t.Data_.length) r
def zj : List Tb → List UInt8
  | [] => []
  | t :: r => jX t ++ zj r
theorem yF : ∀ l : List Tb, (zj l).length = zZ l
  | [] => rfl
  | t :: r => by rw [zj, List.length_append, yR, yF r, zZ]
theorem jO {at_ : Nat} {t : Tb} (h : t.Tag_.length = 4) : (jc at_ t).length = 16 := by simp [jc, zr, h]
theorem xE : ∀ (at_ : Nat) (l : List Tb), (∀ t ∈ l, t.Tag_.length = 4) → (zg at_ l).length = 16 * l.length
  | _, [], _ => rfl
  | at_, t :: r, h => by
    rw [zg, List.length_append, jO (h t (by simp)), xE _ r (fun u hu => h u (by simp [hu])), List.length_cons]; omega
def xW (kind : Nat) (l : List Tb) : List UInt8 := zw kind l.length ++ zg (12 + 16 * l.length) l ++ zj l
theorem ym : ∀ (p : Option (List UInt8)) (l : List Tb), vq p l = true → ∀ t ∈ l, j0 t.Tag_ = true ∧ t.Data_.length ≤ 16777216
  | _, [], _ => by simp
  | p, t :: r, h => by
    rw [vq, Bool.and_eq_true] at h
    intro u hu
    rcases List.mem_cons.1 hu with rfl | hu
    · have h2 := h.1
      unfold Z5 at h2
      simp only [Bool.and_eq_true, decide_eq_true_eq] at h2
      exact ⟨h2.1, h2.2.2⟩
    · exact ym _ r h.2 u hu
theorem jm (a b : List UInt8) : a.map x4 ++ b.map x4 = (a ++ b).map x4 := by rw [List.map_append]
theorem Xs (n : Nat) (h : n ≤ 1000) : QK ([0] : List UInt8) (n : Int) = .ok (List.replicate n 0) := by
  unfold QK
  rw [show (decide (0 ≤ (n : Int)) && decide ((n : Int) ≤ 9223372036854775807) && decide (([0] : List UInt8).length * (n : Int).toNat ≤ 140737488355328)) = true from by
    simp only [Bool.and_eq_true, decide_eq_true_eq, List.length_singleton, Int.toNat_natCast]; omega, qt, Int.toNat_natCast]
  congr 1
  induction n with
  | zero => rfl
  | succ n ih => rw [List.replicate_succ, List.flatten_cons, ih (by omega)]; rfl
theorem vt (K kind : Nat) (l : List Tb) (hk : kind < 4294967296) (hl : 1 ≤ l.length ∧ l.length ≤ 1000) (htag : ∀ t ∈ l, t.Tag_.length = 4) (hd : ∀ t ∈ l, t.Data_.length < K) (hK : 1000 < K) :
    ∀ (k : Nat) (D T : List Tb) (R B : List UInt8), D ++ T = l → T.length < k → B.length + zZ T < 1073741824 → R.length = 16 * D.length →
    qB.l2 K (kind : Int) l ((12 + 16 * l.length : Nat) : Int) k (R.map x4) (B.map x4) (D.length : Int) =
      .ok (zw kind l.length ++ (R ++ zg (12 + 16 * l.length + B.length) T) ++ (B ++ zj T), 0) := by
  intro k
  induction k with
  | zero => intro D T _ _ _ h; omega
  | succ k ih =>
    intro D T R B h1 hk2 hB hR
    have hlen : D.length + T.length = l.length := by rw [← h1]; simp
    rw [qB.l2, qN]
    cases T with
    | nil =>
      rw [if_neg (by simp only [List.length_nil] at hlen; omega)]
      simp only [List.length_nil] at hlen
      unfold qB.j3 q8.m
      rw [vX K kind l.length hk hl.1 hl.2 hK, qE.bind_ok, qP, qE.bind_ok, xN, zo (by rw [xd]; omega), qt, qP, qE.bind_ok, xN,
        zo (by rw [List.length_append, xd]; omega), qt, qP, zg, zj, List.append_nil, List.append_nil]
    | cons t T =>
      simp only [List.length_cons] at hlen hk2
      rw [zZ] at hB
      have e1 : rd l (D.length : Int) = t := by rw [← h1]; exact jK D t T rfl
      have htl := htag t (by rw [← h1]; simp)
      have hdl := hd t (by rw [← h1]; simp)
      have hup : t.Data_.length ≤ zF t.Data_.length ∧ zF t.Data_.length ≤ t.Data_.length + 3 := by unfold zF; omega
      have hw := ue t.Data_
      have e3 : qJ ((D.length : Int) + 1) = ((D ++ [t]).length : Int) := by rw [qD (by omega) (by omega)]; simp
      have eat : qJ (((12 + 16 * l.length : Nat) : Int) + (((B.map x4).length : Nat) : Int)) = ((12 + 16 * l.length + B.length : Nat) : Int) := by rw [List.length_map, qD (by omega) (by omega)]; omega
      have epd : qJ (((zF t.Data_.length : Nat) : Int) - ((t.Data_.length : Nat) : Int)) = ((zF t.Data_.length - t.Data_.length : Nat) : Int) := by rw [qD (by omega) (by omega)]; omega
      have lw : ∀ A, (z2 4 A).length = 4 := zr 4
      rw [if_pos (by omega), zI (by omega), qt, e1, vi K _ (by omega) hdl, qE.bind_ok, xb (x := ((xQ t.Data_ : Nat) : Int)) (by omega) (by omega), uS K _ hw (by omega), qE.bind_ok, zo (by rw [htl, lw]; omega), qt]
      unfold zu.m qZ.m strings_Repeat.m
      rw [qP, qE.bind_ok, eat, uS K _ (by omega) (by omega), qE.bind_ok, zo (by simp only [List.length_append, htl, lw]; omega), qt, uS K _ (by omega) (by omega), qE.bind_ok, zo (by simp only [List.length_append, htl, lw]; omega), qt,
        xP (by simp only [List.length_append, List.length_map, htl, lw]; omega), qt, qP, qP, qE.bind_ok]
      dsimp only
      rw [yx K _ (by omega), qE.bind_ok, epd, Xs _ (by omega), qE.bind_ok, qE.bind_ok, zo (by rw [List.length_replicate]; omega), qt, xP (by simp only [List.length_append, List.length_map, List.length_replicate]; omega), qt, qP, qP, qE.bind_ok]
      dsimp only
      rw [e3, jm, jm, show ((t.Tag_ ++ z2 4 (xQ t.Data_)) ++ z2 4 (12 + 16 * l.length + B.length)) ++ z2 4 t.Data_.length = jc (12 + 16 * l.length + B.length) t from rfl,
        show t.Data_ ++ List.replicate (zF t.Data_.length - t.Data_.length) 0 = jX t from rfl, ih (D ++ [t]) T _ _ (by rw [← h1]; simp) (by omega) (by rw [List.length_append, yR]; omega) (by rw [List.length_append, jO htl, hR, List.length_append, List.length_singleton]; omega),
        zg, zj, List.length_append, yR, List.append_assoc R, List.append_assoc B, Nat.add_assoc (12 + 16 * l.length)]
theorem Zt (kind : Nat) : (((kind : Int) == (65536 : Int)) || ((kind : Int) == (1330926671 : Int))) = decide (kind = 65536 ∨ kind = 1330926671) := by
  rw [Bool.eq_iff_iff]; simp only [Bool.or_eq_true, beq_iff_eq, decide_eq_true_eq]; omega
def vx (kind : Nat) (l : List Tb) : List UInt8 × Int :=
  if (kind = 65536 ∨ kind = 1330926671) ∧ vq none l = true ∧ 0 < l.length ∧ l.length ≤ 1000 then (xW kind l, 0) else ([], 1)
theorem u9 (K kind : Nat) (l : List Tb) (hk : kind < 4294967296) (hl : l.length ≤ 100000) (hb : ∀ t ∈ l, t.Tag_.length ≤ 9223372036854775807 ∧ t.Tag_.length < K) (hs : zZ l < 1073741824) (hd : ∀ t ∈ l, t.Data_.length < K) (hK : 100000 < K) :
    qB.m K (kind : Int) l = .ok (vx kind l) := by
  unfold qB.m zY.m vx
  rw [Zt, qP, qE.bind_ok]
  have dl : decide ((l.length : Int) > 1000) = !decide (l.length ≤ 1000) := by rw [Bool.eq_iff_iff]; simp only [Bool.not_eq_true', decide_eq_true_eq, decide_eq_false_iff_not]; omega
  rw [dl]
  by_cases h1 : kind = 65536 ∨ kind = 1330926671
  · rw [decide_eq_true h1, Bool.not_true, Bool.false_or, yi, qN]
    by_cases h2 : l.length ≤ 1000
    · rw [if_pos h2, QD K l hl hb hs (by omega), qE.bind_ok, decide_eq_true h2, Bool.and_true]
      unfold qB.j1
      cases h3 : vq none l with
      | false => rw [if_neg (by simp)]; rfl
      | true =>
        by_cases h4 : 0 < l.length
        · rw [decide_eq_true h4, if_pos ⟨h1, rfl, h4, h2⟩, Bool.true_and, Bool.not_true, cond_false, qP]
          have ef : qJ ((12 : Int) + qJ ((16 : Int) * (l.length : Int))) = ((12 + 16 * l.length : Nat) : Int) := by rw [qD (x := 16 * _) (by omega) (by omega), qD (by omega) (by omega)]; omega
          have ht := ym none l h3
          have := vt K kind l hk ⟨h4, h2⟩ (fun t h => xF (ht t h).1) hd (by omega) K [] l [] [] rfl (by omega) (by simpa using hs) rfl
          rw [ef]
          exact this
        · rw [decide_eq_false h4, if_neg (fun h => h4 h.2.2.1)]; rfl
    · rw [if_neg h2, if_neg (fun h => h2 h.2.2.2)]; rfl
  · rw [decide_eq_false h1, if_neg (fun h => h1 h.1)]; rfl
end Go.Pn

set_option maxRecDepth 100000
namespace Go.Pn
open Go Go.Sl Go.Pu Go.Mo
abbrev Sp := qW
structure QW (S : List Sp) : Prop where
  each : ∀ x ∈ S, 0 ≤ x.Lo_ ∧ x.Lo_ < x.Hi_ ∧ x.Hi_ < 2305843009213693952
  srt : S.Pairwise fun x y => x.Hi_ ≤ y.Lo_
def jH (S : List Sp) (lo hi : Int) : List Sp := S.takeWhile (fun x => decide (x.Hi_ ≤ lo)) ++ ⟨lo, hi⟩ :: S.dropWhile (fun x => decide (x.Hi_ ≤ lo))
def xz (S : List Sp) (lo hi : Int) : Bool := S.any fun x => decide (lo < x.Hi_) && decide (x.Lo_ < hi)
theorem Qt (S : List Sp) (lo hi : Int) : (jH S lo hi).length = S.length + 1 := by
  have := congrArg List.length (List.takeWhile_append_dropWhile (p := fun x : Sp => decide (x.Hi_ ≤ lo)) (l := S))
  rw [List.length_append] at this
  unfold jH
  rw [List.length_append, List.length_cons]; omega
theorem vQ {S : List Sp} {lo hi : Int} {x : Sp} : x ∈ jH S lo hi ↔ x = ⟨lo, hi⟩ ∨ x ∈ S := by
  have e := List.takeWhile_append_dropWhile (p := fun x : Sp => decide (x.Hi_ ≤ lo)) (l := S)
  unfold jH
  constructor
  · intro h
    rcases List.mem_append.1 h with h | h
    · right; rw [← e]; exact List.mem_append_left _ h
    · rcases List.mem_cons.1 h with h | h
      · exact .inl h
      · right; rw [← e]; exact List.mem_append_right _ h
  · rintro (rfl | h)
    · exact List.mem_append_right _ (List.mem_cons_self ..)
    · rw [← e] at h
      rcases List.mem_append.1 h with h | h
      · exact List.mem_append_left _ h
      · exact List.mem_append_right _ (List.mem_cons_of_mem _ h)
theorem ZY {S : List Sp} (h : QW S) (lo : Int) : ∃ A B, S = A ++ B ∧ (∀ x ∈ A, x.Hi_ ≤ lo) ∧ (∀ x ∈ B, lo < x.Hi_) ∧ ∀ hi, jH S lo hi = A ++ ⟨lo, hi⟩ :: B := by
  refine ⟨S.takeWhile (fun x => decide (x.Hi_ ≤ lo)), S.dropWhile (fun x => decide (x.Hi_ ≤ lo)), List.takeWhile_append_dropWhile.symm, ?_, ?_, fun _ => rfl⟩
  · intro x hx
    have : ∀ (l : List Sp), x ∈ l.takeWhile (fun x => decide (x.Hi_ ≤ lo)) → x.Hi_ ≤ lo := by
      intro l
      induction l with
      | nil => intro h; simp at h
      | cons y l ih =>
        intro hm
        rw [List.takeWhile_cons] at hm
        cases hy : decide (y.Hi_ ≤ lo) with
        | false => rw [hy] at hm; simp at hm
        | true =>
          rw [hy] at hm
          rcases List.mem_cons.1 hm with rfl | hm
          · exact of_decide_eq_true hy
          · exact ih hm
    exact this S hx
  · have hs := h.srt
    have he := h.each
    clear h
    induction S with
    | nil => intro x hx; simp at hx
    | cons y S ih =>
      rw [List.pairwise_cons] at hs
      intro x hx
      rw [List.dropWhile_cons] at hx
      cases hy : decide (y.Hi_ ≤ lo) with
      | false =>
        rw [hy] at hx
        have hy2 : ¬ y.Hi_ ≤ lo := of_decide_eq_false hy
        rcases List.mem_cons.1 hx with rfl | hx
        · omega
        · have h1 := hs.1 x hx
          have h2 := he x (List.mem_cons_of_mem _ hx)
          omega
      | true =>
        rw [hy] at hx
        exact ih hs.2 (fun z hz => he z (List.mem_cons_of_mem _ hz)) x hx
theorem QW.ins {S : List Sp} (h : QW S) {lo hi : Int} (h0 : 0 ≤ lo) (h1 : lo < hi) (h2 : hi < 2305843009213693952) (hc : xz S lo hi = false) : QW (jH S lo hi) := by
  obtain ⟨A, B, hS, hA, hB, he⟩ := ZY h lo
  have hno : ∀ x ∈ S, ¬ (lo < x.Hi_ ∧ x.Lo_ < hi) := by
    intro x hx hh
    have : xz S lo hi = true := List.any_eq_true.2 ⟨x, hx, by simp only [Bool.and_eq_true, decide_eq_true_eq]; exact hh⟩
    rw [this] at hc; cases hc
  refine ⟨fun x hx => ?_, ?_⟩
  · rcases vQ.1 hx with rfl | hx
    · exact ⟨h0, h1, h2⟩
    · exact h.each x hx
  · rw [he hi]
    have hs := h.srt
    rw [hS] at hs
    obtain ⟨p1, p2, p3⟩ := List.pairwise_append.1 hs
    refine List.pairwise_append.2 ⟨p1, List.pairwise_cons.2 ⟨fun y hy => ?_, p2⟩, fun x hx y hy => ?_⟩
    · have q1 := hB y hy
      have q2 := hno y (by rw [hS]; exact List.mem_append_right _ hy)
      show hi ≤ y.Lo_
      omega
    · rcases List.mem_cons.1 hy with rfl | hy
      · exact hA x hx
      · exact p3 x hx y hy
abbrev It := qa
theorem QH {its : List It} {i : Nat} (h : i < its.length) : (rd its (i : Int)).span_ = (its.map (·.span_))[i]'(by simpa using h) := by
  rw [ZM h, List.getElem_map]
theorem Q3 (K : Nat) (its : List It) (S A B : List Sp) (hS : its.map (·.span_) = S) (hAB : S = A ++ B) (lo : Int) (hA : ∀ x ∈ A, x.Hi_ ≤ lo) (hB : ∀ x ∈ B, lo < x.Hi_) (hl : its.length ≤ 1000000) :
    ∀ (k a b : Nat), a ≤ A.length → A.length ≤ b → b ≤ its.length → b - a < k → qn.l1 K ⟨its⟩ lo k (a : Int) (b : Int) = .ok (A.length : Int) := by
  intro k
  induction k with
  | zero => intro a b _ _ _ h; omega
  | succ k ih =>
    intro a b h1 h2 h3 h4
    rw [qn.l1, qN]
    by_cases hlt : a < b
    · have em : jV .i64 (qJ ((a : Int) + (b : Int))) 2 = (((a + b) / 2 : Nat) : Int) := by
        rw [qD (by omega) (by omega), show (a : Int) + (b : Int) = ((a + b : Nat) : Int) by omega]
        exact Qu (b := 2) (by omega) (by decide)
      have hm : (a + b) / 2 < its.length := by omega
      have hml : (a + b) / 2 < (its.map (·.span_)).length := by simpa using hm
      rw [if_pos (by omega), em, qP]
      unfold qT.m
      dsimp only
      rw [zI hm, qt, qP, qE.bind_ok, QH hm, qN]
      by_cases hc : (a + b) / 2 < A.length
      · have hx : (its.map (·.span_))[(a + b) / 2] ∈ A := by
          have : (its.map (·.span_))[(a + b) / 2]? = A[(a + b) / 2]? := by rw [hS, hAB, List.getElem?_append_left hc]
          rw [List.getElem?_eq_getElem hml, List.getElem?_eq_getElem hc] at this
          rw [Option.some.inj this]; exact List.getElem_mem _
        have := hA _ hx
        rw [if_neg (by omega), qD (by omega) (by omega), qP, show (((a + b) / 2 : Nat) : Int) + 1 = (((a + b) / 2 + 1 : Nat) : Int) by omega]
        exact ih _ _ (by omega) h2 h3 (by omega)
      · have hx : (its.map (·.span_))[(a + b) / 2] ∈ B := by
          have h5 : (its.map (·.span_))[(a + b) / 2]? = B[(a + b) / 2 - A.length]? := by rw [hS, hAB, List.getElem?_append_right (by omega)]
          rw [List.getElem?_eq_getElem hml] at h5
          exact List.mem_of_getElem? h5.symm
        have := hB _ hx
        rw [if_pos (by omega)]
        exact ih _ _ h1 (by omega) (by omega) (by omega)
    · rw [if_neg (by omega), show a = A.length by omega]
theorem QE (K : Nat) (its : List It) (S A B : List Sp) (hS : its.map (·.span_) = S) (hAB : S = A ++ B) (lo : Int) (hA : ∀ x ∈ A, x.Hi_ ≤ lo) (hB : ∀ x ∈ B, lo < x.Hi_) (hl : its.length ≤ 1000000) (hK : its.length < K) :
    qn.m K ⟨its⟩ lo = .ok (A.length : Int) := by
  unfold qn.m qQ.m
  rw [qE.bind_ok, qP]
  have h1 := congrArg List.length hS
  have h2 := congrArg List.length hAB
  rw [List.length_map] at h1
  rw [List.length_append] at h2
  exact Q3 K its S A B hS hAB lo hA hB hl K 0 its.length (by omega) (by omega) (Nat.le_refl _) (by omega)
theorem uL {lo hi : Int} (h0 : 0 ≤ lo) (h1 : lo < hi) (h2 : hi < 2305843009213693952) : (((decide (lo ≥ (0 : Int))) && (decide (lo < hi))) && (decide (hi ≤ (4611686018427387904 : Int)))) = true := by
  simp only [Bool.and_eq_true, decide_eq_true_eq]; omega
theorem uP (K : Nat) (its : List It) (S : List Sp) (hS : its.map (·.span_) = S) (hO : QW S) (lo hi : Int) (tag : List UInt8) (h0 : 0 ≤ lo) (h1 : lo < hi) (h2 : hi < 2305843009213693952) (hl : its.length ≤ 100000) (hK : its.length < K) :
    (xz S lo hi = true ∧ qU.m K ⟨its⟩ lo hi tag = .ok (5, its)) ∨
    (xz S lo hi = false ∧ ∃ its', its'.map (·.span_) = jH S lo hi ∧ qU.m K ⟨its⟩ lo hi tag = .ok (0, its')) := by
  obtain ⟨A, B, hAB, hA, hB, hins⟩ := ZY hO lo
  have hf := QE K its S A B hS hAB lo hA hB (by omega) hK
  have hlS : its.length = S.length := by rw [← hS, List.length_map]
  have hlAB : S.length = A.length + B.length := by rw [hAB, List.length_append]
  have hcl : qg.m K ⟨its⟩ lo hi = .ok (xz S lo hi) := by
    unfold qg.m zy.m qQ.m qg.j1 qg.j2 qQ.m
    rw [hf, qE.bind_ok, uL h0 h1 h2, qP, qE.bind_ok, cond_true, qE.bind_ok]
    dsimp only
    cases B with
    | nil =>
      rw [decide_eq_false (by simp only [List.length_nil] at hlAB; omega), cond_false]
      congr 1
      symm
      rw [← Bool.not_eq_true]
      intro h
      obtain ⟨x, hx, h⟩ := List.any_eq_true.1 h
      simp only [Bool.and_eq_true, decide_eq_true_eq] at h
      rw [hAB, List.append_nil] at hx
      have := hA x hx
      omega
    | cons b B =>
      simp only [List.length_cons] at hlAB
      have hr : (rd its (A.length : Int)).span_ = b := by
        rw [QH (by omega)]
        have : (its.map (·.span_))[A.length]? = some b := by rw [hS, hAB]; simp
        rw [List.getElem?_eq_getElem (by rw [List.length_map]; omega)] at this
        exact Option.some.inj this
      rw [decide_eq_true (by omega), cond_true, qE.bind_ok, zI (by omega), qt, hr]
      congr 1
      rw [Bool.eq_iff_iff, decide_eq_true_eq]
      have hb := hB b (by simp)
      constructor
      · intro h
        exact List.any_eq_true.2 ⟨b, by rw [hAB]; simp, by simp only [Bool.and_eq_true, decide_eq_true_eq]; omega⟩
      · intro h
        obtain ⟨x, hx, h⟩ := List.any_eq_true.1 h
        simp only [Bool.and_eq_true, decide_eq_true_eq] at h
        rw [hAB] at hx
        rcases List.mem_append.1 hx with hx | hx
        · have := hA x hx; omega
        · rcases List.mem_cons.1 hx with rfl | hx
          · exact h.2
          · have hs := hO.srt
            rw [hAB] at hs
            have h3 := (List.pairwise_cons.1 (List.pairwise_append.1 hs).2.1).1 x hx
            have h4 := hO.each b (by rw [hAB]; simp)
            omega
  unfold qU.m zy.m
  rw [uL h0 h1 h2, qP, qE.bind_ok, Bool.not_true, qP, cond_false, hcl, qE.bind_ok, hf, qE.bind_ok]
  cases xz S lo hi with
  | true => exact .inl ⟨rfl, rfl⟩
  | false =>
    refine .inr ⟨rfl, its.take A.length ++ [⟨⟨lo, hi⟩, tag⟩] ++ its.drop A.length, ?_, ?_⟩
    · rw [List.map_append, List.map_append, List.map_take, List.map_drop, hS, hAB, List.take_left, List.drop_left, ← hAB, hins hi]; simp
    · unfold qo.m Qs
      dsimp only
      rw [cond_false, show (decide (0 ≤ (A.length : Int)) && decide ((A.length : Int) ≤ (its.length : Int)) && room (its.length + [(⟨⟨lo, hi⟩, tag⟩ : It)].length) 32) = true from by
        rw [decide_eq_true (by omega), decide_eq_true (by omega), Bool.true_and, Bool.true_and, xP (by rw [List.length_singleton]; omega)], qt, Int.toNat_natCast]
      rfl
end Go.Pn

set_option maxRecDepth 100000
namespace Go.Pn
open Go Go.Sl Go.Pu Go.Mo
theorem Xb (K : Nat) : ∀ (k : Nat) (s : List UInt8), s.length < k → s.length < 1099511627776 →
    ∃ r n, qA.l1 K 0 k s = .ok r ∧ s = r ++ List.replicate n 0 ∧ (∀ r' x, r = r' ++ [x] → x ≠ 0) := by
  intro k
  induction k with
  | zero => intro s h; omega
  | succ k ih =>
    intro s h hs
    rw [qA.l1]
    rcases List.eq_nil_or_concat s with rfl | ⟨p, x, rfl⟩
    · exact ⟨[], 0, rfl, rfl, fun r' x h => by simp at h⟩
    · rw [List.concat_eq_append] at *
      have hl : (p ++ [x]).length = p.length + 1 := by simp
      have e1 : qJ (((p ++ [x]).length : Int) - 1) = (p.length : Int) := by rw [hl, qD (by omega) (by omega)]; omega
      have e2 : rd (p ++ [x]) (p.length : Int) = x := jK p x [] rfl
      have himp : ∀ b, imp true b true = true := fun b => by cases b <;> rfl
      rw [e1, zI (by omega), himp, qt, e2, decide_eq_true (by omega), Bool.true_and, yK, z9 (by omega) (by omega) (by omega), qt, qP, y2, List.take_left]
      by_cases hx : x = 0
      · subst hx
        rw [if_pos (show ((UInt8.toNat 0 : Nat) : Int) = 0 from rfl)]
        obtain ⟨r, n, h1, h2, h3⟩ := ih p (by omega) (by omega)
        exact ⟨r, n + 1, h1, by rw [h2, List.replicate_succ']; simp, h3⟩
      · rw [if_neg (by intro h; apply hx; exact UInt8.toNat_inj.1 (by simpa using h))]
        refine ⟨p ++ [x], 0, rfl, by simp, fun r' y h => ?_⟩
        have := List.append_inj' h rfl
        simp only [List.cons.injEq, and_true] at this
        rw [← this.2]; exact hx
theorem Xa (K : Nat) : ∀ (k : Nat) (s : List UInt8), s.length < k → s.length < 1099511627776 →
    ∃ r n, qC.l1 K 0 k s = .ok r ∧ s = List.replicate n 0 ++ r := by
  intro k
  induction k with
  | zero => intro s h; omega
  | succ k ih =>
    intro s h hs
    rw [qC.l1]
    cases s with
    | nil => exact ⟨[], 0, rfl, rfl⟩
    | cons x p =>
      simp only [List.length_cons] at h hs
      have himp : ∀ b, imp true b true = true := fun b => by cases b <;> rfl
      have e2 : rd (x :: p) 0 = x := rfl
      have e3 : sub (x :: p) 1 ((x :: p).length : Int) = p := by
        have := v5 (x :: p) 1
        rw [show ((1 : Nat) : Int) = 1 from rfl] at this
        rw [this]; rfl
      rw [uq (by omega) (by simp only [List.length_cons]; omega), himp, qt, e2, decide_eq_true (by simp only [List.length_cons]; omega), Bool.true_and, yK, z9 (by omega) (by simp only [List.length_cons]; omega) (by omega), qt, qP, e3]
      by_cases hx : x = 0
      · subst hx
        rw [if_pos (show ((UInt8.toNat 0 : Nat) : Int) = 0 from rfl)]
        obtain ⟨r, n, h1, h2⟩ := ih p (by omega) (by omega)
        exact ⟨r, n + 1, h1, by rw [h2, List.replicate_succ]; simp⟩
      · rw [if_neg (by intro h; apply hx; exact UInt8.toNat_inj.1 (by simpa using h))]
        exact ⟨x :: p, 0, rfl, rfl⟩
def uC (s : List UInt8) : Bool := s.all fun x => x == 0
theorem QV (n : Nat) : uC (List.replicate n 0) = true := by simp [uC]
theorem QG (K : Nat) (s : List UInt8) (hs : s.length < 1099511627776) (hK : s.length < K) : ∃ r, zp.m K s = .ok r ∧ (r == []) = uC s := by
  unfold zp.m
  cases s with
  | nil => exact ⟨[], rfl, rfl⟩
  | cons x p =>
    obtain ⟨r, n, h1, h2, h3⟩ := Xb K K (x :: p) hK hs
    have hl : r.length ≤ (x :: p).length := by rw [h2]; simp
    obtain ⟨r2, m, h4, h5⟩ := Xa K K r (by omega) (by omega)
    rw [show ((x :: p == ([] : List UInt8)) || false) = false from rfl, cond_false, show inb (0 : Int) ([0] : List UInt8).length = true from rfl, qt]
    unfold qA.m qC.m
    rw [h1, qE.bind_ok, h4, qE.bind_ok]
    refine ⟨r2, rfl, ?_⟩
    rw [Bool.eq_iff_iff, beq_iff_eq]
    constructor
    · rintro rfl
      rw [List.append_nil] at h5
      rw [h2, h5]; simp [uC]
    · intro hz
      rw [h2] at hz
      unfold uC at hz
      rw [List.all_append, Bool.and_eq_true] at hz
      have hr : r = [] := by
        rcases List.eq_nil_or_concat r with h | ⟨r', y, h⟩
        · exact h
        · exfalso
          rw [List.concat_eq_append] at h
          have hy := h3 r' y h
          have := hz.1
          rw [h] at this
          simp at this
          exact hy this.2
      rw [hr] at h5
      have := congrArg List.length h5
      simp at this
      exact List.length_eq_zero_iff.1 (by omega)
def v6 (s : List UInt8) (S : List Sp) (row : List UInt8) : Except Int (Tb × List Sp) :=
  if zv row 8 4 % 4 ≠ 0 ∨ zv row 12 4 > 16777216 then .error 3 else
  if ¬ zv row 8 4 + zF (zv row 12 4) ≤ s.length then .error 2 else
  if uC ((s.drop (zv row 8 4 + zv row 12 4)).take (zF (zv row 12 4) - zv row 12 4)) = false then .error 3 else
  if 0 < zv row 12 4 ∧ xz S (zv row 8 4 : Nat) ((zv row 8 4 + zF (zv row 12 4) : Nat) : Int) = true then .error 5 else
  if xQ ((s.drop (zv row 8 4)).take (zv row 12 4)) ≠ zv row 4 4 then .error 4 else
  .ok (⟨row.take 4, (s.drop (zv row 8 4)).take (zv row 12 4)⟩, if 0 < zv row 12 4 then jH S (zv row 8 4 : Nat) ((zv row 8 4 + zF (zv row 12 4) : Nat) : Int) else S)
theorem Q5 {n : Nat} (h : n < 18446744073709551616) : yN .u64 (n : Int) 3 = ((n % 4 : Nat) : Int) := by
  have := Qo (a := n) (b := 3) h (by decide)
  rw [show ((3 : Nat) : Int) = 3 from rfl] at this
  rw [this, show n &&& 3 = n % 4 from Nat.and_two_pow_sub_one_eq_mod n 2]
theorem u7 (K : Nat) (s row : List UInt8) (base : Int) (its : List It) (S : List Sp) (hS : its.map (·.span_) = S) (hO : QW S) (hs : s.length ≤ 1000000) (hr : row.length = 16) (hb0 : 0 ≤ base) (hb1 : base < 140737488355328) (hl : its.length ≤ 100000) (hK : 2000000 < K) :
    match v6 s S row with
    | .error e => e ≠ 0 ∧ ∃ its', qw.m K ⟨⟨s, 0⟩, ⟨its⟩⟩ ⟨row, base⟩ = .ok ([], [], e, its')
    | .ok (t, S') => ∃ its', its'.map (·.span_) = S' ∧ qw.m K ⟨⟨s, 0⟩, ⟨its⟩⟩ ⟨row, base⟩ = .ok (t.Tag_, t.Data_, 0, its') := by
  have hU := fun a ha => QR K row base a 4 w4 (by omega) ha hb0 hb1 (by omega)
  rw [show ((4 : Nat) : Int) = 4 from rfl] at hU
  have u4 := hU 4 (by omega)
  have u8 := hU 8 (by omega)
  have u12 := hU 12 (by omega)
  unfold v9 at u4 u8 u12
  rw [if_pos (by omega)] at u4 u8 u12
  have b4 := y5 row 4 4
  have b8 := y5 row 8 4
  have b12 := y5 row 12 4
  unfold qw.m qX.m v6
  have e4 : sub row 0 4 = row.take 4 := y2 row 4
  rw [qE.bind_ok, z9 (by omega) (by omega) (by dsimp only; omega), qt, qP]
  dsimp only
  rw [e4]
  rw [show ((4 : Nat) : Int) = 4 from rfl] at u4
  rw [show ((8 : Nat) : Int) = 8 from rfl] at u8
  rw [show ((12 : Nat) : Int) = 12 from rfl] at u12
  rw [u4, qE.bind_ok]
  dsimp only
  rw [u8, qE.bind_ok]
  dsimp only
  rw [u12, qE.bind_ok]
  dsimp only
  generalize zv row 4 4 = sm at *
  generalize zv row 8 4 = a at *
  generalize zv row 12 4 = n at *
  have hup : n ≤ zF n ∧ zF n ≤ n + 3 := by unfold zF; omega
  rw [Q5 (by omega), jx, yh, qN]
  by_cases h1 : a % 4 ≠ 0 ∨ n > 16777216
  · rw [if_pos h1]
    refine ⟨by decide, its, ?_⟩
    rcases h1 with h | h
    · rw [if_neg (by omega)]
    · by_cases h2 : a % 4 = 0
      · rw [if_pos (by omega), if_pos (by omega)]
      · rw [if_neg (by omega)]
  · rw [if_neg h1, if_pos (show ((a % 4 : Nat) : Int) = 0 by omega), if_neg (show ¬ ((n : Int) > 16777216) by omega), xb (x := (n : Int)) (by omega) (by omega), xb (x := (a : Int)) (by omega) (by omega), yx K n (by omega), qE.bind_ok,
      yU K s 0 a (zF n) (by omega) (by omega) (by omega) (by omega) (by omega)]
    by_cases h2 : a + zF n ≤ s.length
    · rw [if_pos h2, if_neg (fun h => h h2), qE.bind_ok]
      dsimp only
      unfold qw.j1 qX.m xa.m
      have htl : ((s.drop a).take (zF n)).length = zF n := by rw [List.length_take, List.length_drop]; omega
      have hdata : sub ((s.drop a).take (zF n)) 0 (n : Int) = (s.drop a).take n := by rw [y2, List.take_take, Nat.min_eq_left hup.1]
      have hrest : sub ((s.drop a).take (zF n)) (n : Int) (((s.drop a).take (zF n)).length : Int) = (s.drop (a + n)).take (zF n - n) := by
        rw [v5, List.drop_take, List.drop_drop]
      obtain ⟨r, ht1, ht2⟩ := QG K ((s.drop (a + n)).take (zF n - n)) (by rw [List.length_take]; omega) (by rw [List.length_take]; omega)
      have hdl : ((s.drop a).take n).length = n := by rw [List.length_take, List.length_drop]; omega
      rw [show ((0 : Int) != 0) = false from rfl, cond_false, qE.bind_ok, z9 (by omega) (by omega) (by rw [htl]; omega), qt, qP, qE.bind_ok, z9 (by omega) (by rw [htl]; omega) (by omega), qt, hdata, hrest, ht1, qE.bind_ok, ht2]
      cases hz : uC ((s.drop (a + n)).take (zF n - n)) with
      | false => rw [if_pos rfl]; exact ⟨by decide, its, rfl⟩
      | true =>
        rw [if_neg (by decide), Bool.not_true, cond_false, qN]
        have hsum : ∀ its2 : List It, qw.j2 K (row.take 4) (sm : Int) ((s.drop a).take n) its2 = if xQ ((s.drop a).take n) ≠ sm then .ok ([], [], 4, its2) else .ok (row.take 4, (s.drop a).take n, 0, its2) := by
          intro its2
          unfold qw.j2
          rw [vi K _ (by omega) (by omega), qE.bind_ok, xH (by omega) (by omega), yh]
          by_cases hw : xQ ((s.drop a).take n) = sm
          · rw [if_pos (by omega), if_neg (fun h => h hw)]
          · rw [if_neg (by omega), if_pos hw]
        by_cases hn : 0 < n
        · rw [if_pos (show (n : Int) > 0 by omega), qP, qE.bind_ok]
          dsimp only
          rw [htl, xb (x := (a : Int)) (by omega) (by omega), qD (by omega) (by omega), show (a : Int) + ((zF n : Nat) : Int) = ((a + zF n : Nat) : Int) by omega]
          rcases uP K its S hS hO (a : Int) ((a + zF n : Nat) : Int) (row.take 4) (by omega) (by omega) (by omega) hl (by omega) with ⟨hc, hadd⟩ | ⟨hc, its', hm, hadd⟩
          · rw [hadd, hc, if_pos ⟨hn, rfl⟩]
            exact ⟨by decide, its, rfl⟩
          · rw [hadd, hc, if_neg (show ¬ (0 < n ∧ false = true) from fun h => by cases h.2), qE.bind_ok]
            dsimp only
            rw [show ((0 : Int) != 0) = false from rfl, cond_false, hsum]
            by_cases hw : xQ ((s.drop a).take n) ≠ sm
            · rw [if_pos hw, if_pos hw]; exact ⟨by decide, its', rfl⟩
            · rw [if_neg hw, if_neg hw]; exact ⟨its', by rw [hm, if_pos hn], rfl⟩
        · rw [if_neg (show ¬ ((n : Int) > 0) by omega), if_neg (show ¬ (0 < n ∧ xz S (a : Int) ((a + zF n : Nat) : Int) = true) from fun h => hn h.1), hsum]
          by_cases hw : xQ ((s.drop a).take n) ≠ sm
          · rw [if_pos hw, if_pos hw]; exact ⟨by decide, its, rfl⟩
          · rw [if_neg hw, if_neg hw]; exact ⟨its, by rw [hS, if_neg hn], rfl⟩
    · rw [if_neg h2, if_pos h2, qE.bind_ok]
      exact ⟨by decide, its, rfl⟩
def ye (s : List UInt8) (i : Nat) : List UInt8 := (s.drop (12 + 16 * i)).take 16
def xT (s : List UInt8) (kind : Nat) : Nat → Nat → List Sp → List Tb → Nat → List UInt8 → Int × List Tb × Int
  | 0, _, _, out, all, _ => if all ≥ 1073741824 then (0, [], 3) else ((kind : Int), out, 0)
  | j + 1, i, S, out, all, last =>
    if (j0 ((ye s i).take 4) && Op.bytesLess last ((ye s i).take 4)) = false then (0, [], 3) else
    match v6 s S (ye s i) with
    | .error e => (0, [], e)
    | .ok (t, S') => xT s kind j (i + 1) S' (out ++ [t]) (all + zF t.Data_.length) t.Tag_
theorem Zq {s row : List UInt8} {S S' : List Sp} {t : Tb} (hO : QW S) (hs : s.length ≤ 1000000) (h : v6 s S row = .ok (t, S')) : QW S' ∧ S'.length ≤ S.length + 1 ∧ t.Data_.length ≤ 1000000 ∧ t.Tag_ = row.take 4 := by
  unfold v6 at h
  split at h
  · cases h
  · split at h
    · cases h
    · split at h
      · cases h
      · split at h
        · cases h
        · split at h
          · cases h
          · rename_i h1 h2 h3 h4 h5
            simp only [Except.ok.injEq, Prod.mk.injEq] at h
            obtain ⟨rfl, rfl⟩ := h
            have hup : zv row 12 4 ≤ zF (zv row 12 4) := by unfold zF; omega
            refine ⟨?_, ?_, ?_, rfl⟩
            · split
              · rename_i hn
                refine hO.ins (by omega) (by omega) (by omega) ?_
                cases hc : xz S (zv row 8 4 : Nat) ((zv row 8 4 + zF (zv row 12 4) : Nat) : Int) with
                | false => rfl
                | true => exact absurd ⟨hn, hc⟩ h4
              · exact hO
            · split
              · rw [Qt]; omega
              · omega
            · show ((s.drop _).take _).length ≤ 1000000
              rw [List.length_take, List.length_drop]; omega
theorem vY (K : Nat) (s : List UInt8) (kind n : Nat) (hk : kind < 4294967296) (hs : s.length ≤ 1000000) (hn : n ≤ 1000) (hsn : 12 + 16 * n ≤ s.length) (hK : 2000000 < K) : ∀ (j k i : Nat) (S : List Sp) (its : List It) (out : List Tb) (all : Nat) (last : List UInt8), i + j = n → j < k → its.map (·.span_) = S → QW S →
    S.length ≤ i + 1 → out.length = i → all ≤ 1000003 * i →
    qL.l2 K s (kind : Int) (n : Int) ((s.drop 12).take (16 * n)) 12 k its out (all : Int) last (i : Int) = .ok (xT s kind j i S out all last) := by
  intro j
  induction j with
  | zero =>
    intro k i S its out all last h1 h2 hS hO hSl ho ha
    obtain ⟨k, rfl⟩ : ∃ m, k = m + 1 := ⟨k - 1, by omega⟩
    rw [qL.l2, qN, if_neg (by omega), xT]
    unfold qL.j3
    rw [qN, xH (by omega) (by omega), qP]
    by_cases hb : all ≥ 1073741824
    · rw [if_pos (by omega), if_pos hb]
    · rw [if_neg (by omega), if_neg hb]
  | succ j ih =>
    intro k i S its out all last h1 h2 hS hO hSl ho ha
    obtain ⟨k, rfl⟩ : ∃ m, k = m + 1 := ⟨k - 1, by omega⟩
    have e16 : qJ ((16 : Int) * (i : Int)) = ((16 * i : Nat) : Int) := by rw [qD (by omega) (by omega)]; omega
    have hrl : (ye s i).length = 16 := by unfold ye; rw [List.length_take, List.length_drop]; omega
    have hsub := yU K ((s.drop 12).take (16 * n)) 12 (16 * i) 16 (by rw [List.length_take]; omega) (by omega) (by omega) (by omega) (by omega)
    rw [show ((16 : Nat) : Int) = 16 from rfl, if_pos (by rw [List.length_take, List.length_drop]; omega)] at hsub
    have hrow : (((s.drop 12).take (16 * n)).drop (16 * i)).take 16 = ye s i := by
      unfold ye
      rw [List.drop_take, List.drop_drop, List.take_take, Nat.min_eq_left (by omega)]
    rw [hrow] at hsub
    have hitl : its.length ≤ 100000 := by have := congrArg List.length hS; rw [List.length_map] at this; omega
    have e4 : sub (ye s i) 0 4 = (ye s i).take 4 := y2 _ 4
    have htl : ((ye s i).take 4).length = 4 := by rw [List.length_take]; omega
    rw [qL.l2, qN, if_pos (by omega), e16, hsub, qE.bind_ok, xT]
    dsimp only
    unfold qX.m
    rw [qE.bind_ok, z9 (by omega) (by omega) (by omega), qt, qP, e4, uR K _ (by omega) (by omega), qE.bind_ok, Qh, ← Bool.not_and, yi]
    cases hgood : (j0 ((ye s i).take 4) && Op.bytesLess last ((ye s i).take 4)) with
    | false => rw [cond_false, if_pos rfl]
    | true =>
      rw [cond_true, if_neg (by decide)]
      have ht := u7 K s (ye s i) (12 + ((16 * i : Nat) : Int)) its S hS hO hs hrl (by omega) (by omega) hitl hK
      cases htab : v6 s S (ye s i) with
      | error e =>
        rw [htab] at ht
        obtain ⟨he, its', hm⟩ := ht
        rw [hm, qE.bind_ok]
        dsimp only
        rw [yh, if_neg he]
      | ok p =>
        obtain ⟨t, S'⟩ := p
        rw [htab] at ht
        obtain ⟨its', hS', hm⟩ := ht
        obtain ⟨hO', hl', hd, htag⟩ := Zq hO hs htab
        have hup : zF t.Data_.length ≤ t.Data_.length + 3 := by unfold zF; omega
        have e3 : qJ ((i : Int) + 1) = ((i + 1 : Nat) : Int) := by rw [qD (by omega) (by omega)]; omega
        rw [hm, qE.bind_ok]
        dsimp only
        rw [show ((0 : Int) != 0) = false from rfl, cond_false, yx K _ (by omega), qE.bind_ok, qD (by omega) (by omega), qP, xP (by rw [List.length_singleton]; omega), qt, qP, e3, show (all : Int) + ((zF t.Data_.length : Nat) : Int) = ((all + zF t.Data_.length : Nat) : Int) by omega]
        exact ih k (i + 1) S' its' (out ++ [t]) _ _ (by omega) (by omega) hS' hO' (by omega) (by rw [List.length_append, List.length_singleton]; omega) (by omega)
theorem Qg {t : List UInt8} (h : t ≠ []) : Op.bytesLess [] t = true := by
  cases t with
  | nil => exact absurd rfl h
  | cons _ _ => rfl
def vZ (s : List UInt8) : Int × List Tb × Int :=
  if s.length < 12 then (0, [], 2) else
  if ¬ ((zv s 0 4 = 65536 ∨ zv s 0 4 = 1330926671) ∧ 1 ≤ zv s 4 2 ∧ zv s 4 2 ≤ 1000 ∧ s.take 12 = zw (zv s 0 4) (zv s 4 2)) then (0, [], 3) else
  if s.length < 12 + 16 * zv s 4 2 then (0, [], 2) else
  xT s (zv s 0 4) (zv s 4 2) 0 [⟨0, ((12 + 16 * zv s 4 2 : Nat) : Int)⟩] [] 0 []
theorem Zg (n : Nat) (hn : n ≤ 1000) : QW [⟨0, ((12 + 16 * n : Nat) : Int)⟩] :=
  ⟨fun x hx => by rw [List.mem_singleton] at hx; subst hx; dsimp only; omega, List.pairwise_singleton ..⟩
theorem QF (K : Nat) (s : List UInt8) (hs : s.length ≤ 1000000) (hK : 2000000 < K) : qL.m K s = .ok (vZ s) := by
  have h0 := yU K s 0 0 12 (by omega) (by omega) (by omega) (by omega) (by omega)
  rw [show ((0 : Nat) : Int) = 0 from rfl, show ((12 : Nat) : Int) = 12 from rfl] at h0
  unfold qL.m vw.m zt.m vZ
  rw [qE.bind_ok, qE.bind_ok, h0]
  by_cases h1 : s.length < 12
  · rw [if_neg (by omega), if_pos h1]; rfl
  · rw [if_pos (by omega), if_neg h1, qE.bind_ok]
    dsimp only
    rw [List.drop_zero]
    have htl : (s.take 12).length = 12 := by rw [List.length_take]; omega
    have u0 := QR K (s.take 12) (0 + 0) 0 4 w4 (by omega) (by omega) (by omega) (by omega) (by omega)
    have u4 := QR K (s.take 12) (0 + 0) 4 2 w2 (by omega) (by omega) (by omega) (by omega) (by omega)
    unfold v9 at u0 u4
    rw [if_pos (by omega)] at u0 u4
    have b0 : zv (s.take 12) 0 4 = zv s 0 4 := by have := jw s 0 12 0 4 (by omega); rw [List.drop_zero] at this; exact this
    have b4 : zv (s.take 12) 4 2 = zv s 4 2 := by have := jw s 0 12 4 2 (by omega); rw [List.drop_zero] at this; exact this
    rw [b0] at u0
    rw [b4] at u4
    have l0 := y5 s 0 4
    have l4 := y5 s 4 2
    rw [show ((0 : Nat) : Int) = 0 from rfl, show ((4 : Nat) : Int) = 4 from rfl] at u0
    rw [show ((2 : Nat) : Int) = 2 from rfl, show ((4 : Nat) : Int) = 4 from rfl] at u4
    rw [show ((0 : Int) != 0) = false from rfl, cond_false, u0, qE.bind_ok]
    dsimp only
    rw [u4, qE.bind_ok]
    dsimp only
    unfold zY.m
    rw [qP, xH (by omega) (by omega), Zt, qP, qE.bind_ok, xb (by omega) (by omega)]
    generalize zv s 0 4 = kind at *
    generalize zv s 4 2 = n at *
    have stop : qL.j1 K s (kind : Int) (n : Int) true = .ok (0, [], 3) := rfl
    by_cases hg : (kind = 65536 ∨ kind = 1330926671) ∧ 1 ≤ n ∧ n ≤ 1000
    · rw [decide_eq_true hg.1, show (((!true) || decide ((n : Int) < 1)) || decide ((n : Int) > 1000)) = false from by
        rw [Bool.or_eq_false_iff, Bool.or_eq_false_iff]; exact ⟨⟨rfl, decide_eq_false (by omega)⟩, decide_eq_false (by omega)⟩, cond_false]
      unfold qX.m
      rw [qE.bind_ok, vX K kind n l0 hg.2.1 hg.2.2 (by omega), qE.bind_ok]
      by_cases hh : s.take 12 = zw kind n
      · rw [if_neg (fun h => h ⟨hg.1, hg.2.1, hg.2.2, hh⟩), hh, beq_self_eq_true, Bool.not_true]
        unfold qL.j1
        have hsub := yU K s 0 12 (16 * n) (by omega) (by omega) (by omega) (by omega) (by omega)
        rw [show ((12 : Nat) : Int) = 12 from rfl] at hsub
        have e16 : qJ ((16 : Int) * (n : Int)) = ((16 * n : Nat) : Int) := by rw [qD (by omega) (by omega)]; omega
        have e12 : qJ ((12 : Int) + qJ ((16 : Int) * (n : Int))) = ((12 + 16 * n : Nat) : Int) := by rw [qD (x := 16 * _) (by omega) (by omega), qD (by omega) (by omega)]; omega
        rw [cond_false, e12, e16, hsub]
        by_cases h2 : s.length < 12 + 16 * n
        · rw [if_neg (by omega), if_pos h2]; rfl
        · rw [if_pos (by omega), if_neg h2, qE.bind_ok]
          dsimp only
          rw [show ((0 : Int) != 0) = false from rfl, cond_false]
          rcases uP K [] [] rfl ⟨by simp, List.Pairwise.nil⟩ 0 ((12 + 16 * n : Nat) : Int) [] (by omega) (by omega) (by omega) (by simp) (by simp; omega) with ⟨hc, _⟩ | ⟨_, its', hm, hadd⟩
          · cases hc
          · rw [hadd, qE.bind_ok]
            dsimp only
            exact vY K s kind n l0 hs hg.2.2 (by omega) hK n K 0 _ its' [] 0 [] (by omega) (by omega) hm (Zg n hg.2.2) (by simp [jH]) rfl (by omega)
      · rw [if_pos (fun h => hh h.2.2.2), show (s.take 12 == zw kind n) = false from by simpa using hh]; rfl
    · rw [if_pos (fun h => hg ⟨h.1, h.2.1, h.2.2.1⟩)]
      have d : (((!decide (kind = 65536 ∨ kind = 1330926671)) || decide ((n : Int) < 1)) || decide ((n : Int) > 1000)) = true := by
        by_cases hk : kind = 65536 ∨ kind = 1330926671
        · by_cases hn : 1 ≤ n
          · rw [decide_eq_true (show (n : Int) > 1000 by have : ¬ n ≤ 1000 := fun h => hg ⟨hk, hn, h⟩; omega), Bool.or_true]
          · rw [decide_eq_true (show (n : Int) < 1 by omega)]; simp
        · rw [decide_eq_false hk]; rfl
      rw [d, cond_true, stop]
end Go.Pn

set_option maxRecDepth 100000
namespace Go.Pn
open Go Go.Sl Go.Pu Go.Mo
theorem Qy (m : Nat) : qM.m (m + 300) = .ok true := by kernel_rfl
theorem uu (K : Nat) (hK : 300 ≤ K) : qM.m K = .ok true := by
  obtain ⟨m, rfl⟩ : ∃ m, K = m + 300 := ⟨K - 300, by omega⟩
  exact Qy m
structure Xg (K : Nat) (l : List Tb) : Prop where
  len : l.length ≤ 1001
  tag : ∀ t ∈ l, t.Tag_.length ≤ 9223372036854775807 ∧ t.Tag_.length < K
  dat : ∀ t ∈ l, t.Data_.length ≤ 5000
  sz : zZ l ≤ 108003
theorem XG {K : Nat} {l : List Tb} (hK : 9223372036854775807 < K) (hb : ∀ t ∈ l, t.Tag_.length ≤ 9223372036854775807) (h : l.length ≤ 1001 ∧ v8 l ≤ 105000 ∧ zZ l ≤ 108003 ∧ ∀ t ∈ l, t.Data_.length ≤ 5000) : Xg K l :=
  ⟨h.1, fun t ht => ⟨hb t ht, by have := hb t ht; omega⟩, h.2.2.2, h.2.2.1⟩
theorem Xg.prog {K : Nat} {l : List Tb} (h : Xg K l) (kind : Nat) (hk : kind < 4294967296) (hK : 2000000 < K) : qB.m K (kind : Int) l = .ok (vx kind l) :=
  u9 K kind l hk (by have := h.len; omega) h.tag (by have := h.sz; omega) (fun t ht => by have := h.dat t ht; omega) (by omega)
theorem ZP {a : Int} (h : (Lit.int .u32 a).wf = true) : ∃ n : Nat, a = (n : Int) ∧ n < 4294967296 := by
  have h2 : (0 : Int) ≤ a ∧ a < 4294967296 := by
    simp [Lit.wf, IntKind.min, IntKind.max, IntKind.signed, IntKind.bits] at h
    omega
  exact ⟨a.toNat, by omega, by omega⟩
end Go.Pn

set_option maxRecDepth 100000
namespace Go.Pn
open Go Go.Sl Go.Pu Go.Mo
theorem yu {α : Type} (a b : List α) {n : Nat} (h : n = a.length) : (a ++ b).take n = a := by subst h; exact List.take_left
theorem jE {α : Type} (a b : List α) {n : Nat} (h : n = a.length) : (a ++ b).drop n = b := by subst h; exact List.drop_left
structure Good (s : List UInt8) (n i a : Nat) (t : Tb) : Prop where
  row : ye s i = jc a t
  four : a % 4 = 0
  lo : 12 + 16 * n ≤ a
  hi : a + zF t.Data_.length ≤ s.length
  pad : (s.drop a).take (zF t.Data_.length) = jX t
  tag : j0 t.Tag_ = true
  dat : t.Data_.length ≤ 16777216
theorem jP {a : Nat} {t : Tb} (h4 : t.Tag_.length = 4) (ha : a < 4294967296) (hd : t.Data_.length < 4294967296) :
    (jc a t).take 4 = t.Tag_ ∧ zv (jc a t) 4 4 = xQ t.Data_ ∧ zv (jc a t) 8 4 = a ∧ zv (jc a t) 12 4 = t.Data_.length := by
  have hw := ue t.Data_
  have lw : ∀ A, (z2 4 A).length = 4 := zr 4
  unfold jc
  refine ⟨?_, ?_, ?_, ?_⟩
  · rw [List.append_assoc, List.append_assoc]; exact yu _ _ h4.symm
  · have := vm t.Tag_ (xQ t.Data_) (z2 4 a ++ z2 4 t.Data_.length) 4
    rw [h4, Nat.mod_eq_of_lt (by omega)] at this
    rw [List.append_assoc, List.append_assoc]; exact this
  · have := vm (t.Tag_ ++ z2 4 (xQ t.Data_)) a (z2 4 t.Data_.length) 4
    rw [List.length_append, h4, lw, Nat.mod_eq_of_lt (by omega)] at this
    rw [List.append_assoc]; exact this
  · have := vm ((t.Tag_ ++ z2 4 (xQ t.Data_)) ++ z2 4 a) t.Data_.length [] 4
    rw [List.append_nil, List.length_append, List.length_append, h4, lw, lw, Nat.mod_eq_of_lt (by omega)] at this
    exact this
theorem Qb {s : List UInt8} {n i a : Nat} {t : Tb} {S : List Sp} (g : Good s n i a t) (hs : s.length ≤ 1000000) (hc : 0 < t.Data_.length → xz S (a : Nat) ((a + zF t.Data_.length : Nat) : Int) = false) :
    v6 s S (ye s i) = .ok (t, if 0 < t.Data_.length then jH S (a : Nat) ((a + zF t.Data_.length : Nat) : Int) else S) := by
  have hup : t.Data_.length ≤ zF t.Data_.length := by unfold zF; omega
  have h4 := xF g.tag
  have hhi := g.hi
  obtain ⟨p1, p2, p3, p4⟩ := jP (a := a) h4 (by omega) (by have := g.dat; omega)
  have hdat : (s.drop a).take t.Data_.length = t.Data_ := by
    have := congrArg (List.take t.Data_.length) g.pad
    rw [List.take_take, Nat.min_eq_left hup] at this
    rw [this]; unfold jX; exact yu _ _ rfl
  have hz : (s.drop (a + t.Data_.length)).take (zF t.Data_.length - t.Data_.length) = List.replicate (zF t.Data_.length - t.Data_.length) 0 := by
    have := congrArg (List.drop t.Data_.length) g.pad
    rw [List.drop_take, List.drop_drop] at this
    rw [this]; unfold jX; exact jE _ _ rfl
  rw [g.row]
  unfold v6
  rw [p1, p2, p3, p4, if_neg (by have := g.four; have := g.dat; omega), if_neg (fun h => h hhi), hz, QV, if_neg (by decide), if_neg (fun h => by rw [hc h.1] at h; cases h.2), hdat, if_neg (fun h => h rfl)]
def jl (D : List Tb) : List UInt8 := (yT D).getD []
theorem u3 (D : List Tb) (t : Tb) : jl (D ++ [t]) = t.Tag_ := by unfold jl; rw [jb]; rfl
theorem jA : ∀ a b : List Tb, zZ (a ++ b) = zZ a + zZ b
  | [], b => by simp [zZ]
  | t :: a, b => by rw [List.cons_append, zZ, zZ, jA a b, Nat.add_assoc]
theorem uN : ∀ (p : Option (List UInt8)) (D : List Tb) (t : Tb) (T : List Tb), vq p (D ++ t :: T) = true → Z5 (if D = [] then p else yT D) t = true
  | p, [], t, T, h => by
    rw [List.nil_append, vq, Bool.and_eq_true] at h
    rw [if_pos rfl]; exact h.1
  | p, d :: D, t, T, h => by
    rw [List.cons_append, vq, Bool.and_eq_true] at h
    have := uN (some d.Tag_) D t T h.2
    rw [if_neg (by simp)]
    cases D with
    | nil => simpa [yT] using this
    | cons e D => rw [if_neg (by simp)] at this; simpa [yT] using this
theorem QB {D : List Tb} {t : Tb} {T l : List Tb} (hl : D ++ t :: T = l) (h : vq none l = true) : j0 t.Tag_ = true ∧ Op.bytesLess (jl D) t.Tag_ = true := by
  subst hl
  have := uN none D t T h
  unfold Z5 at this
  rw [Bool.and_eq_true] at this
  refine ⟨this.1, ?_⟩
  have h4 := xF this.1
  by_cases hD : D = []
  · subst hD
    exact Qg (fun h => by rw [h] at h4; cases h4)
  · rw [if_neg hD] at this
    unfold jl
    cases hp : yT D with
    | none =>
      exact Qg (fun h => by rw [h] at h4; cases h4)
    | some q =>
      rw [hp] at this
      simp only [Bool.and_eq_true] at this
      exact this.2.1
def Xe (n : Nat) (l : List Tb) (pl : Nat → Nat) (b : Nat) (S : List Sp) : Prop :=
  ∀ x ∈ S, x = ⟨0, ((12 + 16 * n : Nat) : Int)⟩ ∨ ∃ i t, i < b ∧ l[i]? = some t ∧ x = ⟨(pl i : Nat), ((pl i + zF t.Data_.length : Nat) : Int)⟩
structure Qd (s : List UInt8) (l : List Tb) (pl : Nat → Nat) (b : Nat) : Prop where
  good : ∀ i t, i < b → l[i]? = some t → Good s l.length i (pl i) t
  apart : ∀ i j t u, i < j → j < l.length → l[i]? = some t → l[j]? = some u → pl i + zF t.Data_.length ≤ pl j ∨ pl j + zF u.Data_.length ≤ pl i
  ok : vq none l = true
theorem Ze {s : List UInt8} {l : List Tb} {pl : Nat → Nat} {b i : Nat} {S : List Sp} {t : Tb} (hA : ∀ i j t u, i < j → j < l.length → l[i]? = some t → l[j]? = some u → pl i + zF t.Data_.length ≤ pl j ∨ pl j + zF u.Data_.length ≤ pl i)
    (ht : l[i]? = some t) (hlo : 12 + 16 * l.length ≤ pl i) (hI : Xe l.length l pl i S) : xz S (pl i : Nat) ((pl i + zF t.Data_.length : Nat) : Int) = false := by
  rw [← Bool.not_eq_true]
  intro h
  obtain ⟨x, hx, h⟩ := List.any_eq_true.1 h
  simp only [Bool.and_eq_true, decide_eq_true_eq] at h
  rcases hI x hx with rfl | ⟨j, u, hj, hu, rfl⟩
  · dsimp only at h; omega
  · dsimp only at h
    have hil : i < l.length := (List.getElem?_eq_some_iff.1 ht).1
    have := hA j i u t hj hil hu ht
    omega
theorem Z6 {s : List UInt8} {l : List Tb} {pl : Nat → Nat} {b kind m : Nat} (hA : Qd s l pl b) (hs : s.length ≤ 1000000) : ∀ (T D R : List Tb) (S : List Sp), D ++ (T ++ R) = l → D.length + T.length ≤ b → Xe l.length l pl D.length S →
    ∃ S', Xe l.length l pl (D ++ T).length S' ∧ xT s kind (T.length + m) D.length S D (zZ D) (jl D) = xT s kind m (D ++ T).length S' (D ++ T) (zZ (D ++ T)) (jl (D ++ T)) := by
  intro T
  induction T with
  | nil =>
    intro D R S _ _ hI
    exact ⟨S, by simpa using hI, by simp⟩
  | cons t T ih =>
    intro D R S hl hb hI
    simp only [List.length_cons] at hb
    have ht : l[D.length]? = some t := by rw [← hl]; simp
    have g := hA.good D.length t (by omega) ht
    have hok := QB (D := D) (t := t) (T := T ++ R) (by rw [← hl]; simp) hA.ok
    have h4 := xF hok.1
    have htab := Qb (S := S) g hs (fun _ => Ze (s := s) (b := b) hA.apart ht g.lo hI)
    have hrt : (ye s D.length).take 4 = t.Tag_ := by rw [g.row]; exact (jP h4 (by have := g.hi; omega) (by have := g.dat; omega)).1
    have hI2 : Xe l.length l pl (D ++ [t]).length (if 0 < t.Data_.length then jH S (pl D.length : Nat) ((pl D.length + zF t.Data_.length : Nat) : Int) else S) := by
      intro x hx
      have old : x ∈ S → x = ⟨0, ((12 + 16 * l.length : Nat) : Int)⟩ ∨ ∃ i t, i < (D ++ [t]).length ∧ l[i]? = some t ∧ x = ⟨(pl i : Nat), ((pl i + zF t.Data_.length : Nat) : Int)⟩ := by
        intro hx
        rcases hI x hx with h | ⟨i, u, h1, h2, h3⟩
        · exact .inl h
        · exact .inr ⟨i, u, by rw [List.length_append, List.length_singleton]; omega, h2, h3⟩
      have old' : x ∈ S → x = ⟨0, ((12 + 16 * l.length : Nat) : Int)⟩ ∨ ∃ i u, i < (D ++ [t]).length ∧ l[i]? = some u ∧ x = ⟨(pl i : Nat), ((pl i + zF u.Data_.length : Nat) : Int)⟩ := by
        intro hx
        rcases hI x hx with h | ⟨i, u, h1, h2, h3⟩
        · exact .inl h
        · exact .inr ⟨i, u, by rw [List.length_append, List.length_singleton]; omega, h2, h3⟩
      split at hx
      · rcases vQ.1 hx with rfl | hx
        · exact .inr ⟨D.length, t, by rw [List.length_append, List.length_singleton]; omega, ht, rfl⟩
        · exact old' hx
      · exact old' hx
    obtain ⟨S', h1, h2⟩ := ih (D ++ [t]) R _ (by rw [← hl]; simp) (by rw [List.length_append, List.length_singleton]; omega) hI2
    refine ⟨S', by simpa using h1, ?_⟩
    rw [List.length_cons, show T.length + 1 + m = (T.length + m) + 1 by omega, xT, hrt, hok.1, hok.2, if_neg (by decide), htab]
    dsimp only
    rw [show D.length + 1 = (D ++ [t]).length by simp, show zZ D + zF t.Data_.length = zZ (D ++ [t]) by rw [jA, zZ, zZ, Nat.add_zero], show t.Tag_ = jl (D ++ [t]) from (u3 D t).symm, h2]
    simp
theorem vM (kind n : Nat) (hk : kind < 4294967296) (hn : n ≤ 1000) (r : List UInt8) : zv (zw kind n ++ r) 0 4 = kind ∧ zv (zw kind n ++ r) 4 2 = n ∧ (zw kind n ++ r).take 12 = zw kind n := by
  have l4 : (z2 4 kind).length = 4 := zr 4 kind
  refine ⟨?_, ?_, yu _ _ (xd kind n).symm⟩
  · have := vn kind (((z2 2 n ++ z2 2 (16 * 2 ^ n.log2)) ++ z2 2 n.log2) ++ z2 2 (16 * (n - 2 ^ n.log2)) ++ r) 4
    rw [Nat.mod_eq_of_lt (by omega)] at this
    unfold zw
    simp only [List.append_assoc] at this ⊢
    exact this
  · have := vm (z2 4 kind) n ((z2 2 (16 * 2 ^ n.log2) ++ z2 2 n.log2) ++ z2 2 (16 * (n - 2 ^ n.log2)) ++ r) 2
    rw [l4, Nat.mod_eq_of_lt (by omega)] at this
    unfold zw
    simp only [List.append_assoc] at this ⊢
    exact this
theorem Qa {kind : Nat} {l : List Tb} {r : List UInt8} {pl : Nat → Nat} (hk : kind = 65536 ∨ kind = 1330926671) (hl : 1 ≤ l.length ∧ l.length ≤ 1000) (hs : (zw kind l.length ++ r).length ≤ 1000000) (hr : 16 * l.length ≤ r.length) (hz : zZ l < 1073741824)
    (hA : Qd (zw kind l.length ++ r) l pl l.length) : vZ (zw kind l.length ++ r) = ((kind : Int), l, 0) := by
  obtain ⟨p1, p2, p3⟩ := vM kind l.length (by omega) hl.2 r
  have hlen : (zw kind l.length ++ r).length = 12 + r.length := by rw [List.length_append, xd]
  unfold vZ
  rw [p1, p2, p3, if_neg (by omega), if_neg (fun h => h ⟨hk, hl.1, hl.2, rfl⟩), if_neg (by omega)]
  obtain ⟨S', _, h⟩ := Z6 (kind := kind) (m := 0) hA hs l [] [] [⟨0, ((12 + 16 * l.length : Nat) : Int)⟩] (by simp) (by simp) (fun x hx => .inl (List.mem_singleton.1 hx))
  rw [Nat.add_zero, List.nil_append] at h
  refine (show _ = xT (zw kind l.length ++ r) kind l.length ([] : List Tb).length [⟨0, ((12 + 16 * l.length : Nat) : Int)⟩] [] (zZ []) (jl []) from rfl).trans ?_
  rw [h, xT, if_neg (by omega)]
theorem jQ : ∀ (a : Nat) (D T : List Tb), zg a (D ++ T) = zg a D ++ zg (a + zZ D) T
  | a, [], T => by simp [zg, zZ]
  | a, d :: D, T => by rw [List.cons_append, zg, zg, jQ _ D T, zZ, List.append_assoc, Nat.add_assoc]
theorem jB : ∀ (D T : List Tb), zj (D ++ T) = zj D ++ zj T
  | [], T => by simp [zj]
  | d :: D, T => by rw [List.cons_append, zj, zj, jB D T, List.append_assoc]
theorem jS {l : List Tb} {i : Nat} {t : Tb} (h : l[i]? = some t) : l = l.take i ++ t :: l.drop (i + 1) ∧ (l.take i).length = i := by
  obtain ⟨h1, h2⟩ := List.getElem?_eq_some_iff.1 h
  refine ⟨?_, by rw [List.length_take]; omega⟩
  conv => lhs; rw [← List.take_append_drop i l]
  rw [List.drop_eq_getElem_cons h1, h2]
theorem vv : ∀ l : List Tb, zZ l % 4 = 0
  | [] => rfl
  | t :: l => by have := vv l; rw [zZ]; unfold zF; omega
theorem y7 {kind : Nat} {l : List Tb} (h : ∀ t ∈ l, t.Tag_.length = 4) : (xW kind l).length = 12 + 16 * l.length + zZ l := by
  unfold xW; rw [List.length_append, List.length_append, xd, xE _ _ h, yF]
theorem uo {kind : Nat} {l : List Tb} (hok : vq none l = true) {i : Nat} {t : Tb} (ht : l[i]? = some t) : Good (xW kind l) l.length i (12 + 16 * l.length + zZ (l.take i)) t := by
  have htg := ym none l hok
  have h4 : ∀ u ∈ l, u.Tag_.length = 4 := fun u hu => xF (htg u hu).1
  obtain ⟨hl, hi⟩ := jS ht
  have hmem : t ∈ l := List.mem_of_getElem? ht
  have hsz : zZ l = zZ (l.take i) + (zF t.Data_.length + zZ (l.drop (i + 1))) := by
    conv => lhs; rw [hl]
    rw [jA, zZ]
  have hr0 : ∀ base, zg base l = zg base (l.take i) ++ (jc (base + zZ (l.take i)) t ++ zg (base + zZ (l.take i) + zF t.Data_.length) (l.drop (i + 1))) := by
    intro base
    conv => lhs; rw [hl]
    rw [jQ, zg]
  have hr := hr0 (12 + 16 * l.length)
  have hb : zj l = zj (l.take i) ++ (jX t ++ zj (l.drop (i + 1))) := by
    conv => lhs; rw [hl]
    rw [jB, zj]
  have hrl : (zg (12 + 16 * l.length) (l.take i)).length = 16 * i := by rw [xE _ _ (fun u hu => h4 u (List.mem_of_mem_take hu)), hi]
  refine ⟨?_, ?_, by omega, ?_, ?_, (htg t hmem).1, (htg t hmem).2⟩
  · unfold ye xW
    rw [hr]
    have e : zw kind l.length ++ (zg (12 + 16 * l.length) (l.take i) ++ (jc (12 + 16 * l.length + zZ (l.take i)) t ++ zg (12 + 16 * l.length + zZ (l.take i) + zF t.Data_.length) (l.drop (i + 1)))) ++ zj l =
        (zw kind l.length ++ zg (12 + 16 * l.length) (l.take i)) ++ (jc (12 + 16 * l.length + zZ (l.take i)) t ++ (zg (12 + 16 * l.length + zZ (l.take i) + zF t.Data_.length) (l.drop (i + 1)) ++ zj l)) := by simp only [List.append_assoc]
    rw [e, jE _ _ (by rw [List.length_append, xd, hrl]), yu _ _ (jO (h4 t hmem)).symm]
  · have := vv (l.take i); omega
  · rw [y7 h4, hsz]; omega
  · unfold xW
    rw [hb]
    have e : zw kind l.length ++ zg (12 + 16 * l.length) l ++ (zj (l.take i) ++ (jX t ++ zj (l.drop (i + 1)))) = (zw kind l.length ++ zg (12 + 16 * l.length) l ++ zj (l.take i)) ++ (jX t ++ zj (l.drop (i + 1))) := by simp only [List.append_assoc]
    rw [e, jE _ _ (by rw [List.length_append, List.length_append, xd, xE _ _ h4, yF]), yu _ _ (yR t).symm]
theorem vL {l : List Tb} : ∀ i j t u, i < j → j < l.length → l[i]? = some t → l[j]? = some u → 12 + 16 * l.length + zZ (l.take i) + zF t.Data_.length ≤ 12 + 16 * l.length + zZ (l.take j) ∨ 12 + 16 * l.length + zZ (l.take j) + zF u.Data_.length ≤ 12 + 16 * l.length + zZ (l.take i) := by
  intro i j t u hij hj ht hu
  left
  obtain ⟨hl, hi⟩ := jS ht
  have h1 : l.take j = l.take i ++ t :: (l.take j).drop (i + 1) := by
    have h2 : (l.take j)[i]? = some t := by rw [List.getElem?_take, if_pos hij, ht]
    have := (jS h2).1
    rw [List.take_take, Nat.min_eq_left (by omega)] at this
    exact this
  have : zZ (l.take j) = zZ (l.take i) + (zF t.Data_.length + zZ ((l.take j).drop (i + 1))) := by
    conv => lhs; rw [h1]
    rw [jA, zZ]
  omega
theorem QI {kind : Nat} {l : List Tb} (hk : kind = 65536 ∨ kind = 1330926671) (hok : vq none l = true) (hl : 1 ≤ l.length ∧ l.length ≤ 1000) (hz : zZ l ≤ 108003) : vZ (xW kind l) = ((kind : Int), l, 0) := by
  have htg := ym none l hok
  have h4 : ∀ u ∈ l, u.Tag_.length = 4 := fun u hu => xF (htg u hu).1
  have hlen := y7 (kind := kind) h4
  have hA : Qd (xW kind l) l (fun i => 12 + 16 * l.length + zZ (l.take i)) l.length := ⟨fun i t _ ht => uo hok ht, vL, hok⟩
  have e : xW kind l = zw kind l.length ++ (zg (12 + 16 * l.length) l ++ zj l) := by unfold xW; rw [List.append_assoc]
  rw [e] at hA hlen ⊢
  exact Qa hk hl (by omega) (by rw [List.length_append, xE _ _ h4]; omega) (by omega) hA
theorem uy (K : Nat) (hK : 9223372036854775807 < K) (kind : Nat) (hk : kind < 4294967296) (l : List Tb) (hb : ∀ t ∈ l, t.Tag_.length ≤ 9223372036854775807) : qe.m K (kind : Int) l = .ok true := by
  unfold qe.m
  obtain ⟨b, hs, h⟩ := Z7 K l (by omega)
  rw [hs, qE.bind_ok]
  cases b with
  | false => rw [Bool.not_false, cond_true, uu K (by omega)]; rfl
  | true =>
    have hf := XG hK hb (h rfl)
    have hlen := hf.len
    have hsz := hf.sz
    rw [Bool.not_true, cond_false, hf.prog kind hk (by omega), qE.bind_ok]
    unfold vx
    by_cases hg : (kind = 65536 ∨ kind = 1330926671) ∧ vq none l = true ∧ 0 < l.length ∧ l.length ≤ 1000
    · rw [if_pos hg]
      dsimp only
      have htg := ym none l hg.2.1
      have hfl := y7 (kind := kind) (l := l) (fun u hu => xF (htg u hu).1)
      have hm := vv l
      have e4 : jW ((xW kind l).length : Int) 4 = (((xW kind l).length % 4 : Nat) : Int) := vR (b := 4)
      rw [show ((0 : Int) != 0) = false from rfl, cond_false, QF K _ (by omega) (by omega), qE.bind_ok, QI hg.1 hg.2.1 ⟨hg.2.2.1, hg.2.2.2⟩ hsz]
      dsimp only
      rw [beq_self_eq_true, beq_self_eq_true, Bool.true_and, cond_true, same K l (by omega) (by omega), qE.bind_ok]
      unfold qe.j2 qe.j3
      rw [e4, show (xW kind l).length % 4 = 0 by omega, show ((true && (((0 : Nat) : Int) == 0))) = true from rfl, cond_true, uu K (by omega)]; rfl
    · rw [if_neg hg]
      dsimp only
      rw [show ((1 : Int) != 0) = true from rfl, cond_true, show (([] : List UInt8) == []) = true from rfl, cond_true, uu K (by omega)]; rfl
theorem jY (kind : Int) (l : List Tb) (hk : (Lit.int .u32 kind).wf = true) (hl : ∀ t ∈ l, t.Tag_.length ≤ maxLen ∧ t.Data_.length ≤ maxLen) (_ : l.length * 32 ≤ 140737488351232) : qe.m 10000000000000000000 kind l = .ok true := by
  obtain ⟨n, rfl, hn⟩ := ZP hk
  exact uy _ (by decide) n hn l (fun t ht => by have := (hl t ht).1; simpa [maxLen] using this)
end Go.Pn

