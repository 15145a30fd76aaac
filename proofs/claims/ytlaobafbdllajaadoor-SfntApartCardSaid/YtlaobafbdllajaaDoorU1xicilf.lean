/- Plain facts on the models: what they compute, and what holds of them; conditions: what each theorem states. -/
import Derived.Test.YtlaobafbdllajaaDoorMifiho
set_option linter.unusedVariables false
set_option linter.unusedSimpArgs false
namespace Go.Pu
open Go Go.Sl
theorem qB {x : Int} (h0 : -9223372036854775808 ≤ x) (h1 : x < 9223372036854775808) : qC x = x := by
  show (if (true && decide (x % 18446744073709551616 ≥ 9223372036854775808)) = true then x % 18446744073709551616 - 18446744073709551616 else x % 18446744073709551616) = x
  split <;> rename_i h <;> simp at h <;> omega
theorem XR (x : Int) : wr .u64 x = x % 18446744073709551616 := by
  simp [wr, IntKind.wrap, IntKind.bits, IntKind.signed]
theorem Zy (x : Int) : wr .u32 x = x % 4294967296 := by
  simp [wr, IntKind.wrap, IntKind.bits, IntKind.signed]
theorem XS (x : Int) : wr .u8 x = x % 256 := by
  simp [wr, IntKind.wrap, IntKind.bits, IntKind.signed]
theorem xk {x : Int} (h0 : 0 ≤ x) (h1 : x < 18446744073709551616) : wr .u64 x = x := by rw [XR]; omega
theorem z4 {x : Int} (h0 : 0 ≤ x) (h1 : x < 4294967296) : wr .u32 x = x := by rw [Zy]; omega
theorem v7 {x : Int} (h0 : 0 ≤ x) (h1 : x < 256) : wr .u8 x = x := by rw [XS]; omega
theorem xC {x : Int} (h0 : -9223372036854775808 ≤ x) (h1 : x < 9223372036854775808) : wr .i64 x = x := qB h0 h1
theorem yT (n a : Nat) : BitVec.ofInt n (a : Int) = BitVec.ofNat n a := by
  apply BitVec.eq_of_toNat_eq
  simp
theorem QZ {a b : Nat} (ha : a < 18446744073709551616) (hb : b < 18446744073709551616) : jf .u64 a b = ((a &&& b : Nat) : Int) := by
  show IntKind.u64.wrap ((BitVec.ofInt 64 (a : Int) &&& BitVec.ofInt 64 (b : Int)).toNat : Int) = _
  simp only [yT, BitVec.toNat_and, BitVec.toNat_ofNat]
  rw [Nat.mod_eq_of_lt (by simpa using ha), Nat.mod_eq_of_lt (by simpa using hb)]
  have : a &&& b ≤ a := Nat.and_le_left
  exact xk (by omega) (by omega)
theorem QY {a b : Nat} (ha : a < 9223372036854775808) (hb : b < 9223372036854775808) : jf .i64 a b = ((a &&& b : Nat) : Int) := by
  show IntKind.i64.wrap ((BitVec.ofInt 64 (a : Int) &&& BitVec.ofInt 64 (b : Int)).toNat : Int) = _
  simp only [yT, BitVec.toNat_and, BitVec.toNat_ofNat]
  rw [Nat.mod_eq_of_lt (by omega), Nat.mod_eq_of_lt (by omega)]
  have : a &&& b ≤ a := Nat.and_le_left
  exact qB (by omega) (by omega)
theorem ZL {a b : Nat} (ha : a < 18446744073709551616) (hb : b < 18446744073709551616) : Xw .u64 a b = ((a ||| b : Nat) : Int) := by
  show IntKind.u64.wrap ((BitVec.ofInt 64 (a : Int) ||| BitVec.ofInt 64 (b : Int)).toNat : Int) = _
  simp only [yT, BitVec.toNat_or, BitVec.toNat_ofNat]
  rw [Nat.mod_eq_of_lt (by simpa using ha), Nat.mod_eq_of_lt (by simpa using hb)]
  have : a ||| b < 2 ^ 64 := Nat.or_lt_two_pow (by simpa using ha) (by simpa using hb)
  exact xk (by omega) (by omega)
theorem ut {a b : Nat} (ha : a < 9223372036854775808) (hb : b < 9223372036854775808) : jg .i64 (a : Int) (b : Int) = ((a / b : Nat) : Int) := by
  unfold jg
  have h1 : (a : Int).tdiv (b : Int) = ((a / b : Nat) : Int) := by rw [Int.ofNat_tdiv]
  rw [h1]
  have h2 : a / b ≤ a := Nat.div_le_self _ _
  generalize a / b = q at h2 ⊢
  exact qB (by omega) (by omega)
theorem vk {a b : Nat} : jE (a : Int) (b : Int) = ((a % b : Nat) : Int) := by
  unfold jE
  rw [Int.ofNat_tmod]
theorem xZ {k : IntKind} {a n : Nat} (hn : n ≤ k.bits) : zR k (a : Int) (n : Int) = ((a / 2 ^ n : Nat) : Int) := by
  unfold zR
  rw [Int.toNat_natCast, Nat.min_eq_left hn, Int.fdiv_eq_ediv_of_nonneg _ (Int.pow_nonneg (by decide))]
  simp
theorem Q5 {a n : Nat} (hn : n ≤ 64) (h : a * 2 ^ n < 18446744073709551616) : jW .u64 (a : Int) (n : Int) = ((a * 2 ^ n : Nat) : Int) := by
  unfold jW
  rw [Int.toNat_natCast, show min n IntKind.u64.bits = n from Nat.min_eq_left hn]
  have e : (a : Int) * 2 ^ n = ((a * 2 ^ n : Nat) : Int) := by push_cast; rfl
  rw [e]
  exact xk (by omega) (by omega)
theorem Q4 {a n : Nat} (hn : n ≤ 32) (h : a * 2 ^ n < 4294967296) : jW .u32 (a : Int) (n : Int) = ((a * 2 ^ n : Nat) : Int) := by
  unfold jW
  rw [Int.toNat_natCast, show min n IntKind.u32.bits = n from Nat.min_eq_left hn]
  have e : (a : Int) * 2 ^ n = ((a * 2 ^ n : Nat) : Int) := by push_cast; rfl
  rw [e]
  exact z4 (by omega) (by omega)
end Go.Pu

namespace Go.Pn
open Go Go.Sl Go.Pu
theorem u3 {i : Int} {n : Nat} (h0 : 0 ≤ i) (h1 : i < (n : Int)) : inb i n = true := yS.2 ⟨h0, h1⟩
theorem xz {lo hi : Int} {n : Nat} (h0 : 0 ≤ lo) (h1 : lo ≤ hi) (h2 : hi ≤ (n : Int)) : subok lo hi n = true := yW.2 ⟨h0, h1, h2⟩
theorem xw {n k : Nat} (h : n * k ≤ 140737488355328) : room n k = true := decide_eq_true h
theorem zg {n : Nat} (h : n ≤ 9223372036854775807) : xJ n = true := decide_eq_true h
theorem y7 {x : Int} (h : 0 ≤ x) : decide (0 ≤ x) = true := decide_eq_true h
section
variable {α : Type}
theorem qL {p : Prop} [Decidable p] (a b : α) : cond (decide p) a b = if p then a else b := by
  by_cases h : p <;> simp [h]
theorem je {x y : Int} (a b : α) : cond (x == y) a b = if x = y then a else b := by
  by_cases h : x = y
  · rw [if_pos h, beq_iff_eq.2 h]; rfl
  · rw [if_neg h, beq_eq_false_iff_ne.2 h]; rfl
theorem yf {x y : Int} (a b : α) : cond (x != y) a b = if x = y then b else a := by
  by_cases h : x = y
  · rw [if_pos h, bne_eq_false_iff_eq.2 h]; rfl
  · rw [if_neg h, bne_iff_ne.2 h]; rfl
theorem yg (x : Bool) (a b : α) : cond (!x) a b = cond x b a := by cases x <;> rfl
theorem ui (x y : Bool) (a b : α) : cond (x && y) a b = cond x (cond y a b) b := by cases x <;> rfl
theorem j4 (x y : Bool) (a b : α) : cond (x || y) a b = cond x a (cond y a b) := by cases x <;> rfl
end
theorem Xn {α : Type} [Inhabited α] {l : List α} {i : Nat} (h : i < l.length) : rd l (i : Int) = l[i] := by
  simp [rd, List.getD, List.getElem?_eq_getElem h]
theorem zx {i n : Nat} (h : i < n) : inb (i : Int) n = true := by simp only [inb, decide_eq_true_eq]; omega
theorem yo (n : Nat) : wr .u8 (n : Int) = ((n % 256 : Nat) : Int) := by rw [XS]; rfl
theorem Z5 {n : Nat} : yC (n : Int) = UInt8.ofNat n := by unfold yC; rw [Int.toNat_natCast]
theorem Z2 {α : Type} (l : List α) (n m : Nat) : sub l (n : Int) (m : Int) = (l.drop n).take (m - n) := by
  simp only [sub, Int.toNat_natCast]
theorem jt {α : Type} (s : List α) (n : Nat) : sub s 0 (n : Int) = s.take n := by simp [sub]
theorem uK {α : Type} (s : List α) (n : Nat) : sub s (n : Int) (s.length : Int) = s.drop n := by
  simp only [sub, Int.toNat_natCast]
  exact List.take_of_length_le (by simp)
theorem xK (l : List UInt8) : (l.map xW).map yC = l := by
  rw [List.map_map]
  have : (yC ∘ xW) = id := by funext x; simp [yC, xW]
  rw [this, List.map_id]
theorem vN {n : Nat} (h : n < 256) : xW (UInt8.ofNat n) = (n : Int) := by
  unfold xW
  have : (UInt8.ofNat n).toNat = n % 256 := by simp
  rw [this, Nat.mod_eq_of_lt h]
theorem yx {α : Type} [Inhabited α] (A : List α) (x : α) (B : List α) {i : Int} (h : i = (A.length : Int)) : rd (A ++ x :: B) i = x := by
  subst h; simp [rd, List.getD]
theorem Zs {α : Type} (A : List α) (x y : α) (B : List α) {i : Int} (h : i = (A.length : Int)) : (A ++ x :: B).set (Int.toNat i) y = A ++ y :: B := by
  subst h; simp
def xm (s : List UInt8) (i : Nat) : Nat := (s.getD i 0).toNat
theorem vf (s : List UInt8) (i : Nat) : xm s i < 256 := (s.getD i 0).toNat_lt
theorem ZV {s : List UInt8} {i : Nat} : ((rd s (i : Int)).toNat : Int) = (xm s i : Int) := by
  simp only [rd, xm, Int.toNat_natCast]; rfl
theorem XH {n : Nat} (h : n < 9223372036854775808) : jf .i64 (n : Int) 3 = ((n % 4 : Nat) : Int) := by
  have := QY (a := n) (b := 3) h (by decide)
  rw [show ((3 : Nat) : Int) = 3 from rfl] at this
  rw [this, show n &&& 3 = n % 4 from Nat.and_two_pow_sub_one_eq_mod n 2]
def ZC (w : Nat) : Prop := w = 1 ∨ w = 2 ∨ w = 4 ∨ w = 8
def zK (s : List UInt8) (at_ : Nat) : Nat → Nat
  | 0 => 0
  | w + 1 => zK s at_ w * 256 + xm s (at_ + w)
theorem jw (s : List UInt8) (at_ : Nat) : ∀ w, zK s at_ w < 256 ^ w
  | 0 => by simp [zK]
  | w + 1 => by
    have := jw s at_ w
    have h2 := vf s (at_ + w)
    rw [zK, Nat.pow_succ]; omega
def xO (s : List UInt8) (w : Nat) : Nat → Nat
  | 0 => 0
  | i + 1 => xO s w i + xm s (w - 1 - i) * 2 ^ (8 * i)
theorem vK (s : List UInt8) (w : Nat) : ∀ i, xO s w i < 2 ^ (8 * i)
  | 0 => by simp [xO]
  | i + 1 => by
    have := vK s w i
    have h2 := vf s (w - 1 - i)
    have h3 : xm s (w - 1 - i) * 2 ^ (8 * i) ≤ 255 * 2 ^ (8 * i) := Nat.mul_le_mul_right _ (by omega)
    rw [xO, show 8 * (i + 1) = 8 * i + 8 by omega, Nat.pow_add]; omega
theorem vJ (s : List UInt8) (w : Nat) : ∀ i, i ≤ w → zK s 0 w = zK s 0 (w - i) * 2 ^ (8 * i) + xO s w i
  | 0, _ => by simp [xO]
  | i + 1, h => by
    rw [vJ s w i (by omega), xO]
    have e : w - i = (w - (i + 1)) + 1 := by omega
    rw [e, zK, Nat.zero_add, show w - 1 - i = w - (i + 1) by omega, show 8 * (i + 1) = 8 + 8 * i by omega, Nat.pow_add, Nat.add_mul, Nat.mul_assoc, show (2 : Nat) ^ 8 = 256 from rfl]
    omega
theorem uZ (s : List UInt8) (at_ w i : Nat) (h : i < w) : xm ((s.drop at_).take w) i = xm s (at_ + i) := by
  unfold xm
  rw [List.getD_eq_getElem?_getD, List.getD_eq_getElem?_getD, List.getElem?_take, if_pos h, List.getElem?_drop]
theorem j0 (s : List UInt8) (at_ w j : Nat) : ∀ i, j + i ≤ w → zK ((s.drop at_).take w) j i = zK s (at_ + j) i
  | 0, _ => rfl
  | i + 1, h => by rw [zK, zK, j0 s at_ w j i (by omega), uZ s at_ w (j + i) (by omega), Nat.add_assoc]
theorem QQ (s : List UInt8) (at_ w : Nat) (i : Nat) (h : i ≤ w) : zK ((s.drop at_).take w) 0 i = zK s at_ i := j0 s at_ w 0 i (by omega)
theorem QB (a b : List UInt8) (i : Nat) : xm (a ++ b) (a.length + i) = xm b i := by
  unfold xm
  rw [List.getD_eq_getElem?_getD, List.getD_eq_getElem?_getD, List.getElem?_append_right (by omega), Nat.add_sub_cancel_left]
theorem Qh (a b : List UInt8) (i : Nat) : ∀ w, zK (a ++ b) (a.length + i) w = zK b i w
  | 0 => rfl
  | w + 1 => by rw [zK, zK, Qh a b i w, Nat.add_assoc, QB]
def xe : Nat → Nat → List UInt8
  | 0, _ => []
  | w + 1, A => UInt8.ofNat (A / 256 ^ w % 256) :: xe w A
theorem zE : ∀ w A, (xe w A).length = w
  | 0, _ => rfl
  | w + 1, A => by rw [xe, List.length_cons, zE w A]
theorem uY (x : UInt8) (l : List UInt8) (i : Nat) : xm (x :: l) (i + 1) = xm l i := by
  unfold xm; rw [List.getD_cons_succ]
theorem uf (x : UInt8) (l : List UInt8) (i : Nat) : ∀ w, zK (x :: l) (i + 1) w = zK l i w
  | 0 => rfl
  | w + 1 => by rw [zK, zK, uf x l i w, show i + 1 + w = (i + w) + 1 by omega, uY]
theorem vE (s : List UInt8) (i : Nat) : ∀ w, zK s i (w + 1) = xm s i * 256 ^ w + zK s (i + 1) w
  | 0 => by simp [zK]
  | w + 1 => by
    rw [zK, vE s i w, zK, show i + (w + 1) = i + 1 + w by omega, Nat.pow_succ, Nat.add_mul, Nat.mul_assoc, Nat.add_assoc]
theorem vS (A : Nat) (r : List UInt8) : ∀ w, zK (xe w A ++ r) 0 w = A % 256 ^ w
  | 0 => by simp [zK, Nat.mod_one]
  | w + 1 => by
    rw [vE, xe, List.cons_append, Nat.zero_add, show (1 : Nat) = 0 + 1 from rfl, uf, vS A r w]
    have : xm (UInt8.ofNat (A / 256 ^ w % 256) :: (xe w A ++ r)) 0 = A / 256 ^ w % 256 := by simp [xm]
    rw [this, Nat.pow_succ, Nat.mod_mul, Nat.add_comm, Nat.mul_comm]
theorem vR (p : List UInt8) (A : Nat) (r : List UInt8) (w : Nat) : zK (p ++ (xe w A ++ r)) p.length w = A % 256 ^ w := by
  have := Qh p (xe w A ++ r) 0 w
  rw [Nat.add_zero] at this
  rw [this, vS]
def uS (i : Nat) : List UInt8 → Nat
  | [] => 0
  | x :: r => x.toNat * 256 ^ (3 - i % 4) + uS (i + 1) r
def xN (s : List UInt8) : Nat := uS 0 s % 4294967296
theorem vx (s : List UInt8) : xN s < 4294967296 := Nat.mod_lt _ (by decide)
end Go.Pn

set_option maxRecDepth 100000
namespace Go.Pn
open Go Go.Sl Go.Pu Go.Mo
theorem jR (K : Nat) (w : Nat) (hw : ZC w) : xM.m K (w : Int) = .ok true := by
  rcases hw with rfl | rfl | rfl | rfl <;> rfl
theorem Zw (K : Nat) (v : List UInt8) (w : Nat) (hw : w ≤ 8) (hv : v.length = w) : ∀ (j k i : Nat), i + j = w → j < k →
    qx.l1 K (w : Int) v k (xO v w i : Int) (i : Int) = .ok ((zK v 0 w : Int), 0) := by
  intro j
  induction j with
  | zero =>
    intro k i hi hk
    obtain ⟨k, rfl⟩ : ∃ m, k = m + 1 := ⟨k - 1, by omega⟩
    rw [qx.l1]
    have := vJ v w w (Nat.le_refl _)
    rw [Nat.sub_self] at this
    have e : xO v w i = zK v 0 w := by
      rw [show i = w by omega, this]; simp [zK]
    simp (disch := omega) only [qJ.bind_ok, qJ.bind_pan, qn, qF, uP, cond_true, cond_false, qL, je, yf, yg, ui, j4, qB, v7, z4, xk, xC, u3, xz, xw, zg, y7, Int.toNat_natCast, if_neg, e]
  | succ j ih =>
    intro k i hi hk
    obtain ⟨k, rfl⟩ : ∃ m, k = m + 1 := ⟨k - 1, by omega⟩
    rw [qx.l1]
    unfold zy.m
    have e1 : (w : Int) - 1 - (i : Int) = ((w - 1 - i : Nat) : Int) := by omega
    have e2 : (8 : Int) * (i : Int) = ((8 * i : Nat) : Int) := by omega
    have e6 : (i : Int) + 1 = ((i + 1 : Nat) : Int) := by push_cast; rfl
    have hb := vf v (w - 1 - i)
    simp (disch := omega) only [qJ.bind_ok, qJ.bind_pan, qn, qF, uP, cond_true, cond_false, qL, je, yf, yg, ui, j4, qB, v7, z4, xk, xC, u3, xz, xw, zg, y7, Int.toNat_natCast, if_pos, e1, e2, e6, ZV]
    have hpow : 2 ^ (8 * i) ≤ 2 ^ 56 := Nat.pow_le_pow_right (by decide) (by omega)
    have hm : xm v (w - 1 - i) * 2 ^ (8 * i) ≤ 255 * 2 ^ (8 * i) := Nat.mul_le_mul_right _ (by omega)
    have hl := vK v w i
    rw [Q5 (by omega) (by omega), ZL (by omega) (by omega)]
    have e3 : xO v w i ||| xm v (w - 1 - i) * 2 ^ (8 * i) = xO v w (i + 1) := by
      rw [Nat.or_comm, Nat.mul_comm, ← Nat.two_pow_add_eq_or_of_lt hl, xO, Nat.mul_comm]; omega
    rw [e3]
    exact ih k (i + 1) (by omega) (by omega)
def uO (s : List UInt8) (at_ w : Nat) : Nat × Int := if at_ + w ≤ s.length then (zK s at_ w, 0) else (0, 2)
theorem jl (K : Nat) (s : List UInt8) (base : Int) (at_ n : Nat) (hs : s.length < 140737488355328) (ha : at_ < 9223372036854775808) (hn : n < 9223372036854775808) (hb0 : 0 ≤ base) (hb1 : base < 140737488355328) :
    zj.m K ⟨s, base⟩ (at_ : Int) (n : Int) = if at_ + n ≤ s.length then .ok ((s.drop at_).take n, base + at_, 0) else .ok ([], 0, 2) := by
  unfold zj.m
  have h0 : (decide ((at_ : Int) < 0) || decide ((n : Int) < 0)) = false := by rw [Bool.or_eq_false_iff]; exact ⟨decide_eq_false (by omega), decide_eq_false (by omega)⟩
  rw [h0, cond_false]
  dsimp only
  by_cases h : at_ + n ≤ s.length
  · have h1 : (decide ((at_ : Int) > (s.length : Int)) || decide ((n : Int) > qC ((s.length : Int) - (at_ : Int)))) = false := by
      rw [Bool.or_eq_false_iff, qB (by omega) (by omega)]; exact ⟨decide_eq_false (by omega), decide_eq_false (by omega)⟩
    have e : qC ((at_ : Int) + (n : Int)) = ((at_ + n : Nat) : Int) := by rw [qB (by omega) (by omega)]; push_cast; rfl
    rw [h1, cond_false, if_pos h, e, xz (by omega) (by omega) (by omega), Z2, Nat.add_sub_cancel_left, qB (by omega) (by omega)]
    rfl
  · have h1 : (decide ((at_ : Int) > (s.length : Int)) || decide ((n : Int) > qC ((s.length : Int) - (at_ : Int)))) = true := by
      rw [Bool.or_eq_true, decide_eq_true_eq, decide_eq_true_eq]
      by_cases h2 : at_ > s.length
      · left; omega
      · right; rw [qB (by omega) (by omega)]; omega
    rw [h1, cond_true, if_neg h]
theorem Zv (K : Nat) (s : List UInt8) (base : Int) (at_ w : Nat) (hw : ZC w) (hs : s.length < 140737488355328) (ha : at_ < 9223372036854775808) (hb0 : 0 ≤ base) (hb1 : base < 140737488355328) (hK : 8 < K) :
    qx.m K ⟨s, base⟩ (at_ : Int) (w : Int) = .ok (((uO s at_ w).1 : Int), (uO s at_ w).2) := by
  unfold qx.m uO
  have hw8 : w ≤ 8 := by unfold ZC at hw; omega
  rw [jR K w hw, jl K s base at_ w hs ha (by omega) hb0 hb1]
  simp only [qJ.bind_ok, Bool.not_true, cond_false]
  by_cases h : at_ + w ≤ s.length
  · rw [if_pos h, if_pos h]
    have z : ((0 : Int) != 0) = false := rfl
    simp only [qJ.bind_ok, z, cond_false, zM.m]
    have hl : ((s.drop at_).take w).length = w := by simp; omega
    have := Zw K ((s.drop at_).take w) w hw8 hl w K 0 (by omega) (by omega)
    rw [QQ s at_ w w (Nat.le_refl _)] at this
    exact this
  · rw [if_neg h, if_neg h]
    rfl
theorem Zl (K : Nat) (w : Nat) (hw : ZC w) : zP.m K (w : Int) = .ok true := by
  rcases hw with rfl | rfl | rfl | rfl <;> rfl
def u6 : List UInt8 := [0, 1, 2, 2, 3, 3, 3, 3, 4, 4, 4, 4, 4, 4, 4, 4, 5, 5, 5, 5, 5, 5, 5, 5, 5, 5, 5, 5, 5, 5, 5, 5, 6, 6, 6, 6, 6, 6, 6, 6, 6, 6, 6, 6, 6, 6, 6, 6, 6, 6, 6, 6, 6, 6, 6, 6, 6, 6, 6, 6, 6, 6, 6, 6, 7, 7, 7, 7, 7, 7, 7, 7, 7, 7, 7, 7, 7, 7, 7, 7, 7, 7, 7, 7, 7, 7, 7, 7, 7, 7, 7, 7, 7, 7, 7, 7, 7, 7, 7, 7, 7, 7, 7, 7, 7, 7, 7, 7, 7, 7, 7, 7, 7, 7, 7, 7, 7, 7, 7, 7, 7, 7, 7, 7, 7, 7, 7, 7, 8, 8, 8, 8, 8, 8, 8, 8, 8, 8, 8, 8, 8, 8, 8, 8, 8, 8, 8, 8, 8, 8, 8, 8, 8, 8, 8, 8, 8, 8, 8, 8, 8, 8, 8, 8, 8, 8, 8, 8, 8, 8, 8, 8, 8, 8, 8, 8, 8, 8, 8, 8, 8, 8, 8, 8, 8, 8, 8, 8, 8, 8, 8, 8, 8, 8, 8, 8, 8, 8, 8, 8, 8, 8, 8, 8, 8, 8, 8, 8, 8, 8, 8, 8, 8, 8, 8, 8, 8, 8, 8, 8, 8, 8, 8, 8, 8, 8, 8, 8, 8, 8, 8, 8, 8, 8, 8, 8, 8, 8, 8, 8, 8, 8, 8, 8, 8, 8, 8, 8, 8, 8, 8, 8, 8, 8, 8, 8]
theorem QF : ∀ v : Nat, v < 256 → ∀ m : Nat, m < 9 → ((rd u6 (v : Int)).toNat ≤ m ↔ v < 2 ^ m) := by decide +kernel
def jP (x r : Nat) : Prop := ∀ m : Nat, r ≤ m ↔ x < 2 ^ m
theorem uu {x r : Nat} (hx : x < 256) (h : ∀ m, m < 9 → (r ≤ m ↔ x < 2 ^ m)) : jP x r := by
  intro m
  by_cases hm : m < 9
  · exact h m hm
  · have h8 := (h 8 (by omega)).2 (by omega)
    have : 2 ^ 8 ≤ 2 ^ m := Nat.pow_le_pow_right (by decide) (by omega)
    constructor <;> intro _ <;> omega
theorem y8 {x r j : Nat} (hx : 2 ^ j ≤ x) (h : jP (x / 2 ^ j) r) : jP x (j + r) := by
  intro m
  by_cases hm : j ≤ m
  · have e : x / 2 ^ j < 2 ^ (m - j) ↔ x < 2 ^ m := by
      rw [Nat.div_lt_iff_lt_mul (Nat.two_pow_pos j), ← Nat.pow_add, show m - j + j = m by omega]
    rw [← e, ← h (m - j)]; omega
  · have : 2 ^ m < 2 ^ j := Nat.pow_lt_pow_right (by decide) (by omega)
    constructor <;> intro _ <;> omega
theorem uw (K x n : Nat) (hx : x < 256) (hn : n ≤ 64) : ∃ r : Nat, jP x r ∧ qq.j3 K (x : Int) (n : Int) = .ok ((n + r : Nat) : Int) := by
  have ht := QF x hx
  have e : wr .u8 (x : Int) = (x : Int) := v7 (by omega) (by omega)
  unfold qq.j3
  rw [e, zx (by simpa using hx), qn, qF]
  show ∃ r : Nat, jP x r ∧ qJ.ok (qC ((n : Int) + wr .i64 (((rd u6 (x : Int)).toNat : Nat) : Int))) = .ok ((n + r : Nat) : Int)
  generalize (rd u6 (x : Int)).toNat = q at ht ⊢
  have hq := (ht 8 (by omega)).2 (by omega)
  have e2 : wr .i64 (q : Int) = (q : Int) := xC (by omega) (by omega)
  rw [e2, qB (by omega) (by omega)]
  exact ⟨q, uu hx ht, by rw [Int.natCast_add]⟩
theorem XJ (K x : Nat) (hx : x < 18446744073709551616) : ∃ r : Nat, jP x r ∧ qq.m K (x : Int) = .ok (r : Int) := by
  have j2 : ∀ y n : Nat, y < 65536 → n ≤ 48 → ∃ r : Nat, jP y r ∧ qq.j2 K (y : Int) (n : Int) = .ok ((n + r : Nat) : Int) := by
    intro y n hy hn
    unfold qq.j2
    rw [qL]
    by_cases h : y ≥ 256
    · have e : zR .u64 (y : Int) 8 = ((y / 256 : Nat) : Int) := xZ (n := 8) (by decide)
      rw [if_pos (by omega), qF, qF, e, qB (by omega) (by omega), show (n : Int) + 8 = ((n + 8 : Nat) : Int) from by omega]
      obtain ⟨r, hr, h2⟩ := uw K (y / 256) (n + 8) (by omega) (by omega)
      exact ⟨8 + r, y8 (j := 8) (by omega) hr, by rw [h2, Nat.add_assoc]⟩
    · rw [if_neg (by omega)]
      exact uw K y n (by omega) (by omega)
  have j1 : ∀ y n : Nat, y < 4294967296 → n ≤ 32 → ∃ r : Nat, jP y r ∧ qq.j1 K (y : Int) (n : Int) = .ok ((n + r : Nat) : Int) := by
    intro y n hy hn
    unfold qq.j1
    rw [qL]
    by_cases h : y ≥ 65536
    · have e : zR .u64 (y : Int) 16 = ((y / 65536 : Nat) : Int) := xZ (n := 16) (by decide)
      rw [if_pos (by omega), qF, qF, e, qB (by omega) (by omega), show (n : Int) + 16 = ((n + 16 : Nat) : Int) from by omega]
      obtain ⟨r, hr, h2⟩ := j2 (y / 65536) (n + 16) (by omega) (by omega)
      exact ⟨16 + r, y8 (j := 16) (by omega) hr, by rw [h2, Nat.add_assoc]⟩
    · rw [if_neg (by omega)]
      exact j2 y n (by omega) (by omega)
  unfold qq.m
  rw [qL]
  by_cases h : x ≥ 4294967296
  · have e : zR .u64 (x : Int) 32 = ((x / 4294967296 : Nat) : Int) := xZ (n := 32) (by decide)
    rw [if_pos (by omega), qF, e, show (32 : Int) = ((32 : Nat) : Int) from rfl]
    obtain ⟨r, hr, h2⟩ := j1 (x / 4294967296) 32 (by omega) (by omega)
    exact ⟨32 + r, y8 (j := 32) (by omega) hr, h2⟩
  · rw [if_neg (by omega), show (0 : Int) = ((0 : Nat) : Int) from rfl]
    obtain ⟨r, hr, h2⟩ := j1 x 0 (by omega) (by omega)
    rw [Nat.zero_add] at h2
    exact ⟨r, hr, h2⟩
theorem uR (K A w : Nat) (hw : w ≤ 8) (z : List Int) (hz : z.length = w) : ∀ (j k i : Nat), i + j = w → j < k →
    qY.l1 K (A : Int) (w : Int) z k (List.replicate (w - i) 0 ++ (xe i A).map xW) (i : Int) = .ok (xe w A, 0) := by
  intro j
  induction j with
  | zero =>
    intro k i hi hk
    obtain ⟨k, rfl⟩ : ∃ m, k = m + 1 := ⟨k - 1, by omega⟩
    have : i = w := by omega
    subst this
    rw [qY.l1, qL, if_neg (by omega), qF, Nat.sub_self]
    simp only [List.replicate_zero, List.nil_append, xK]
  | succ j ih =>
    intro k i hi hk
    obtain ⟨k, rfl⟩ : ∃ m, k = m + 1 := ⟨k - 1, by omega⟩
    have e1 : qC (qC ((w : Int) - 1) - (i : Int)) = ((w - 1 - i : Nat) : Int) := by rw [qB (x := (w : Int) - 1) (by omega) (by omega), qB (by omega) (by omega)]; omega
    have e2 : qC ((8 : Int) * (i : Int)) = ((8 * i : Nat) : Int) := by rw [qB (by omega) (by omega)]; omega
    have e3 : qC ((i : Int) + 1) = ((i + 1 : Nat) : Int) := by rw [qB (by omega) (by omega)]; omega
    have hl : (List.replicate (w - i) (0 : Int) ++ (xe i A).map xW).length = w := by simp only [List.length_append, List.length_replicate, List.length_map, zE]; omega
    have hset : (List.replicate (w - i) (0 : Int) ++ (xe i A).map xW).set (w - 1 - i) ((A / 256 ^ i % 256 : Nat) : Int) = List.replicate (w - (i + 1)) 0 ++ (xe (i + 1) A).map xW := by
      have e : List.replicate (w - i) (0 : Int) ++ (xe i A).map xW = List.replicate (w - (i + 1)) 0 ++ 0 :: (xe i A).map xW := by
        rw [show w - i = (w - (i + 1)) + 1 by omega, List.replicate_succ']; simp
      have := Zs (List.replicate (w - (i + 1)) (0 : Int)) 0 ((A / 256 ^ i % 256 : Nat) : Int) ((xe i A).map xW) (i := ((w - 1 - i : Nat) : Int)) (by rw [List.length_replicate]; omega)
      rw [e, Int.toNat_natCast] at *
      rw [this, xe, List.map_cons, vN (Nat.mod_lt _ (by decide))]
    rw [qY.l1, qL, if_pos (by omega), e2, y7 (by omega), qn]
    unfold zy.m
    rw [e1, qF, qJ.bind_ok, zx (by rw [hl]; omega), qn, qF, e3, xZ (show 8 * i ≤ 64 by omega), yo, show 2 ^ (8 * i) = 256 ^ i from by rw [Nat.pow_mul], Int.toNat_natCast, hset]
    exact ih k (i + 1) (by omega) (by omega)
def yq (w A : Nat) : List UInt8 × Int := if A < 256 ^ w then (xe w A, 0) else ([], 10)
theorem uQ (K A w : Nat) (hw : ZC w) (hA : A < 18446744073709551616) (hK : 8 < K) : qY.m K (A : Int) (w : Int) = .ok (yq w A) := by
  have hw8 : w ≤ 8 := by unfold ZC at hw; omega
  obtain ⟨r, hr, h⟩ := XJ K A hA
  unfold qY.m yq
  rw [jR K w hw, qJ.bind_ok, Bool.not_true, cond_false, h, qJ.bind_ok, qL, qB (by omega) (by omega)]
  have hm := hr (8 * w)
  rw [Nat.pow_mul, show (2 : Nat) ^ 8 = 256 from rfl] at hm
  by_cases hf : A < 256 ^ w
  · have := hm.2 hf
    have hl := uR K A w hw8 (List.replicate w 0) (List.length_replicate ..) w K 0 (by omega) (by omega)
    simp only [Nat.sub_zero, xe, List.map_nil, List.append_nil] at hl
    rw [if_pos hf, if_neg (by omega)]
    unfold zM.m
    rw [qJ.bind_ok, y7 (by omega), Bool.true_and, xw (by omega), qn, qF, Int.toNat_natCast]
    exact hl
  · rw [if_neg hf, if_pos (by omega)]
theorem uF (K A w : Nat) (hw : w ≤ 8) (hA : A < 18446744073709551616) : ∀ (j k i : Nat), i + j = w → j < k →
    qh.l1 K (w : Int) true k ((A / 256 ^ i : Nat) : Int) (List.replicate (w - i) 0 ++ (xe i A).map xW) (i : Int) = .ok (yq w A) := by
  intro j
  induction j with
  | zero =>
    intro k i hi hk
    obtain ⟨k, rfl⟩ : ∃ m, k = m + 1 := ⟨k - 1, by omega⟩
    have : i = w := by omega
    subst this
    rw [qh.l1, qL, if_neg (by omega)]
    unfold qh.j3 yq
    rw [qL]
    by_cases hf : A < 256 ^ i
    · rw [if_pos hf, Nat.div_eq_of_lt hf, if_neg (by omega), qF, Nat.sub_self]
      simp only [List.replicate_zero, List.nil_append, xK]
    · have : 0 < A / 256 ^ i := Nat.div_pos (by omega) (Nat.pow_pos (by decide))
      rw [if_neg hf, if_pos (by omega)]
  | succ j ih =>
    intro k i hi hk
    obtain ⟨k, rfl⟩ : ∃ m, k = m + 1 := ⟨k - 1, by omega⟩
    have hle : A / 256 ^ i ≤ A := Nat.div_le_self _ _
    have e1 : qC (qC ((w : Int) - 1) - (i : Int)) = ((w - 1 - i : Nat) : Int) := by rw [qB (x := (w : Int) - 1) (by omega) (by omega), qB (by omega) (by omega)]; omega
    have e3 : qC ((i : Int) + 1) = ((i + 1 : Nat) : Int) := by rw [qB (by omega) (by omega)]; omega
    have hl : (List.replicate (w - i) (0 : Int) ++ (xe i A).map xW).length = w := by simp only [List.length_append, List.length_replicate, List.length_map, zE]; omega
    have hset : (List.replicate (w - i) (0 : Int) ++ (xe i A).map xW).set (w - 1 - i) ((A / 256 ^ i % 256 : Nat) : Int) = List.replicate (w - (i + 1)) 0 ++ (xe (i + 1) A).map xW := by
      have e : List.replicate (w - i) (0 : Int) ++ (xe i A).map xW = List.replicate (w - (i + 1)) 0 ++ 0 :: (xe i A).map xW := by
        rw [show w - i = (w - (i + 1)) + 1 by omega, List.replicate_succ']; simp
      have := Zs (List.replicate (w - (i + 1)) (0 : Int)) 0 ((A / 256 ^ i % 256 : Nat) : Int) ((xe i A).map xW) (i := ((w - 1 - i : Nat) : Int)) (by rw [List.length_replicate]; omega)
      rw [e, Int.toNat_natCast] at *
      rw [this, xe, List.map_cons, vN (Nat.mod_lt _ (by decide))]
    have e5 : jE ((A / 256 ^ i : Nat) : Int) 256 = ((A / 256 ^ i % 256 : Nat) : Int) := vk (b := 256)
    have e6 : jg .u64 ((A / 256 ^ i : Nat) : Int) 256 = ((A / 256 ^ (i + 1) : Nat) : Int) := by
      unfold jg
      have e : Int.tdiv ((A / 256 ^ i : Nat) : Int) 256 = ((A / 256 ^ i / 256 : Nat) : Int) := (Int.ofNat_tdiv (A / 256 ^ i) 256).symm
      rw [e, Nat.div_div_eq_div_mul, show 256 ^ i * 256 = 256 ^ (i + 1) from (Nat.pow_succ ..).symm]
      have := Nat.div_le_self A (256 ^ (i + 1))
      generalize A / 256 ^ (i + 1) = z at this
      exact xk (by omega) (by omega)
    rw [qh.l1, qL, if_pos (by omega), cond_true, qF]
    unfold qh.j2
    rw [e1, zx (by rw [hl]; omega), qn, qF, qF, qF, e3, e5, e6, yo, Nat.mod_mod, Int.toNat_natCast, hset]
    exact ih k (i + 1) (by omega) (by omega)
theorem uE (K A w : Nat) (hw : ZC w) (hA : A < 18446744073709551616) (hK : 8 < K) : qh.m K (A : Int) (w : Int) true = .ok (yq w A) := by
  have hw8 : w ≤ 8 := by unfold ZC at hw; omega
  have hl := uF K A w hw8 hA w K 0 (by omega) (by omega)
  simp only [Nat.sub_zero, xe, List.map_nil, List.append_nil, Nat.pow_zero, Nat.div_one] at hl
  unfold qh.m
  rw [Zl K w hw, qJ.bind_ok, Bool.not_true, cond_false, y7 (by omega), Bool.true_and, xw (by omega), qn, qF, Int.toNat_natCast]
  exact hl
theorem vX (K : Nat) (s : List UInt8) (hs : s.length < 140737488355328) : ∀ (k : Nat) (D T : List UInt8) (n : Nat), D ++ T = s → T.length < k → n < 4294967296 →
    zw.l1 K s k (n : Int) (D.length : Int) = .ok (((n + uS D.length T) % 4294967296 : Nat) : Int) := by
  intro k
  induction k with
  | zero => intro D T n _ h; omega
  | succ k ih =>
    intro D T n h1 hk hn
    have hlen : D.length + T.length = s.length := by rw [← h1]; simp
    rw [zw.l1, qL]
    cases T with
    | nil =>
      rw [if_neg (by simp only [List.length_nil] at hlen; omega), uS, Nat.add_zero, Nat.mod_eq_of_lt hn]
    | cons x T =>
      simp only [List.length_cons] at hlen hk
      have e1 : rd s (D.length : Int) = x := by rw [← h1]; exact yx D x T rfl
      have e3 : qC ((D.length : Int) + 1) = ((D ++ [x]).length : Int) := by rw [qB (by omega) (by omega)]; simp
      have hx := x.toNat_lt
      have hd : D.length % 4 < 4 := Nat.mod_lt _ (by decide)
      have e4 : qC ((24 : Int) - qC (8 * ((D.length % 4 : Nat) : Int))) = ((24 - 8 * (D.length % 4) : Nat) : Int) := by
        rw [qB (x := 8 * _) (by omega) (by omega), qB (by omega) (by omega)]; omega
      have hpow : 2 ^ (24 - 8 * (D.length % 4)) = 256 ^ (3 - D.length % 4) := by rw [show 24 - 8 * (D.length % 4) = 8 * (3 - D.length % 4) by omega, Nat.pow_mul]
      have hple : 256 ^ (3 - D.length % 4) ≤ 256 ^ 3 := Nat.pow_le_pow_right (by decide) (by omega)
      have hm : x.toNat * 256 ^ (3 - D.length % 4) ≤ 255 * 256 ^ 3 := Nat.mul_le_mul (by omega) hple
      rw [if_pos (by omega), zx (by omega), qn, e1, XH (by omega), e4, y7 (by omega), qn, qF, z4 (x := ((x.toNat : Nat) : Int)) (by omega) (by omega), Q4 (by omega) (by rw [hpow]; omega), hpow, Zy, e3]
      have e5 : ((n : Int) + ((x.toNat * 256 ^ (3 - D.length % 4) : Nat) : Int)) % 4294967296 = (((n + x.toNat * 256 ^ (3 - D.length % 4)) % 4294967296 : Nat) : Int) := by omega
      rw [e5, ih (D ++ [x]) T _ (by rw [← h1]; simp) (by omega) (Nat.mod_lt _ (by decide)), uS, List.length_append, List.length_singleton]
      congr 2
      omega
theorem vO (K : Nat) (s : List UInt8) (hs : s.length < 140737488355328) (hK : s.length < K) : zw.m K s = .ok ((xN s : Nat) : Int) := by
  have := vX K s hs K [] s 0 rfl hK (by decide)
  rw [Nat.zero_add] at this
  exact this
theorem uH (K : Nat) (g : Int → Int → qJ Int) (n i : Nat) (hn : n < 4294967296) (hi : i < 140737488355328) : ∀ (j k q b : Nat), q + j = 3 → j < k → b < 256 ^ (q + 1) →
    qu.l2 K g (n : Int) (i : Int) k (b : Int) (q : Int) = g (((n + b * 256 ^ j) % 4294967296 : Nat) : Int) ((i + 1 : Nat) : Int) := by
  intro j
  induction j with
  | zero =>
    intro k q b hq hk hb
    obtain ⟨k, rfl⟩ : ∃ m, k = m + 1 := ⟨k - 1, by omega⟩
    have e3 : qC ((i : Int) + 1) = ((i + 1 : Nat) : Int) := by rw [qB (by omega) (by omega)]; omega
    rw [qu.l2, qL, if_neg (by omega), qF, qF, e3, Zy, Nat.pow_zero, Nat.mul_one]
    congr 1
  | succ j ih =>
    intro k q b hq hk hb
    obtain ⟨k, rfl⟩ : ∃ m, k = m + 1 := ⟨k - 1, by omega⟩
    have e3 : qC ((q : Int) + 1) = ((q + 1 : Nat) : Int) := by rw [qB (by omega) (by omega)]; omega
    have hp : 256 ^ (q + 1) ≤ 256 ^ 3 := Nat.pow_le_pow_right (by decide) (by omega)
    have hb2 : b * 256 < 256 ^ (q + 1 + 1) := by rw [Nat.pow_succ]; omega
    have e4 : wr .u32 ((b : Int) * 256) = ((b * 256 : Nat) : Int) := by rw [z4 (by omega) (by omega)]; omega
    rw [qu.l2, qL, if_pos (by omega), qF, qF, e3, e4, ih k (q + 1) (b * 256) (by omega) (by omega) hb2, Nat.mul_assoc, Nat.pow_succ, Nat.mul_comm 256]
theorem uG (K : Nat) (hK : 4 < K) (s : List UInt8) (hs : s.length < 140737488355328) : ∀ (k : Nat) (D T : List UInt8) (n : Nat), D ++ T = s → T.length < k → n < 4294967296 →
    qu.l1 K s k (n : Int) (D.length : Int) = .ok (((n + uS D.length T) % 4294967296 : Nat) : Int) := by
  intro k
  induction k with
  | zero => intro D T n _ h; omega
  | succ k ih =>
    intro D T n h1 hk hn
    have hlen : D.length + T.length = s.length := by rw [← h1]; simp
    rw [qu.l1, qL]
    cases T with
    | nil =>
      rw [if_neg (by simp only [List.length_nil] at hlen; omega), uS, Nat.add_zero, Nat.mod_eq_of_lt hn]
    | cons x T =>
      simp only [List.length_cons] at hlen hk
      have e1 : rd s (D.length : Int) = x := by rw [← h1]; exact yx D x T rfl
      have hx := x.toNat_lt
      have hd : D.length % 4 < 4 := Nat.mod_lt _ (by decide)
      have e2 : jE (D.length : Int) 4 = ((D.length % 4 : Nat) : Int) := vk (b := 4)
      have hb : x.toNat < 256 ^ (D.length % 4 + 1) := by
        have : 256 ^ 1 ≤ 256 ^ (D.length % 4 + 1) := Nat.pow_le_pow_right (by decide) (by omega)
        omega
      rw [if_pos (by omega), zx (by omega), qn, e1, qF, qF, e2, z4 (x := ((x.toNat : Nat) : Int)) (by omega) (by omega), uH K _ n D.length hn (by omega) (3 - D.length % 4) K (D.length % 4) x.toNat (by omega) (by omega) hb]
      rw [show ((D.length + 1 : Nat) : Int) = ((D ++ [x]).length : Int) from by simp, ih (D ++ [x]) T _ (by rw [← h1]; simp) (by omega) (Nat.mod_lt _ (by decide)), uS, List.length_append, List.length_singleton]
      congr 2
      omega
theorem Zm (K : Nat) (s : List UInt8) (hs : s.length < 140737488355328) (hK : s.length < K) (hK2 : 4 < K) : qu.m K s = .ok ((xN s : Nat) : Int) := by
  have := uG K hK2 s hs K [] s 0 rfl hK (by decide)
  rw [Nat.zero_add] at this
  exact this
end Go.Pn

set_option maxRecDepth 100000
namespace Go.Pn
open Go Go.Sl Go.Pu Go.Mo
abbrev Tb := qc
theorem QS : ∀ a b : List UInt8, (Op.bytesLess a b || a == b) = !Op.bytesLess b a
  | [], [] => rfl
  | [], _ :: _ => rfl
  | _ :: _, [] => rfl
  | x :: a, y :: b => by
    have ih := QS a b
    simp only [Op.bytesLess]
    have hxy : x < y ↔ x.toNat < y.toNat := UInt8.lt_iff_toNat_lt
    have hyx : y < x ↔ y.toNat < x.toNat := UInt8.lt_iff_toNat_lt
    have heq : x = y ↔ x.toNat = y.toNat := UInt8.toNat_inj.symm
    by_cases h1 : x = y
    · subst h1
      have hn : ¬ x < x := by rw [hxy]; omega
      have e : (x :: a == x :: b) = (a == b) := by simp
      rw [e, decide_eq_false hn]
      simp only [beq_self_eq_true, Bool.true_and, Bool.false_or]
      exact ih
    · have e : (x :: a == y :: b) = false := by simp [h1]
      have e1 : (x == y) = false := by simp [h1]
      have e2 : (y == x) = false := by simp; exact fun h => h1 h.symm
      rw [e, e1, e2]
      simp only [Bool.false_and, Bool.or_false]
      by_cases h2 : x < y
      · rw [decide_eq_true h2, decide_eq_false (by rw [hyx]; rw [hxy] at h2; omega)]; rfl
      · have : y < x := by rw [hyx]; rw [hxy] at h2; rw [heq] at h1; omega
        rw [decide_eq_false h2, decide_eq_true this]; rfl
def ZF (x : UInt8) : Bool := decide (32 ≤ x.toNat ∧ x.toNat ≤ 126)
def jY (s : List UInt8) : Bool := s.all ZF && decide (s.length = 4)
theorem yl {s : List UInt8} (h : jY s = true) : s.length = 4 := by
  unfold jY at h; rw [Bool.and_eq_true] at h; exact of_decide_eq_true h.2
theorem uv (n : Nat) : ((n : Int) == (4 : Int)) = decide (n = 4) := by
  rw [Bool.eq_iff_iff]; simp only [beq_iff_eq, decide_eq_true_eq]; omega
theorem Qa (K : Nat) (s : List UInt8) (hs : s.length ≤ 9223372036854775807) : ∀ (k : Nat) (D T : List UInt8), D ++ T = s → T.length < k →
    zo.l1 K s (s.map xW) k (D.length : Int) = .ok (T.all ZF && decide (s.length = 4)) := by
  intro k
  induction k with
  | zero => intro D T _ h; omega
  | succ k ih =>
    intro D T h1 hk
    have hlen : D.length + T.length = s.length := by rw [← h1]; simp
    rw [zo.l1, qL, List.length_map]
    cases T with
    | nil =>
      rw [if_neg (by simp only [List.length_nil] at hlen; omega), qF, List.all_nil, Bool.true_and, uv]
    | cons x T =>
      simp only [List.length_cons] at hlen hk
      have e1 : rd (s.map xW) (D.length : Int) = xW x := by rw [← h1, List.map_append, List.map_cons]; exact yx _ _ _ (by rw [List.length_map])
      have e3 : qC ((D.length : Int) + 1) = ((D ++ [x]).length : Int) := by rw [qB (by omega) (by omega)]; simp
      have e4 : (decide (xW x < (32 : Int)) || decide (xW x > (126 : Int))) = !ZF x := by
        unfold ZF xW
        rw [Bool.eq_iff_iff]; simp only [Bool.or_eq_true, decide_eq_true_eq, Bool.not_eq_true', decide_eq_false_iff_not]; omega
      rw [if_pos (by omega), zx (by omega), qn, qF, e1, e4, e3, List.all_cons]
      cases hx : ZF x with
      | false => rfl
      | true =>
        rw [Bool.not_true, cond_false, Bool.true_and]
        exact ih (D ++ [x]) T (by rw [← h1]; simp) (by omega)
theorem Qu (K : Nat) (s : List UInt8) (hs : s.length ≤ 9223372036854775807) (hK : s.length < K) : zo.m K s = .ok (jY s) := by
  unfold zo.m
  rw [zg hs, qn, qF]
  exact Qa K s hs K [] s rfl hK
theorem QK (K : Nat) (s : List UInt8) (hs : s.length ≤ 9223372036854775807) : ∀ (k : Nat) (D T : List UInt8), D ++ T = s → T.length < k →
    q4.l1 K s k (D.length : Int) = .ok (T.all ZF && decide (s.length = 4)) := by
  intro k
  induction k with
  | zero => intro D T _ h; omega
  | succ k ih =>
    intro D T h1 hk
    have hlen : D.length + T.length = s.length := by rw [← h1]; simp
    rw [q4.l1, qL]
    cases T with
    | nil =>
      rw [if_neg (by simp only [List.length_nil] at hlen; omega), qF, List.all_nil, Bool.true_and, uv]
    | cons x T =>
      simp only [List.length_cons] at hlen hk
      have e1 : rd s (D.length : Int) = x := by rw [← h1]; exact yx D x T rfl
      have e3 : qC ((D.length : Int) + 1) = ((D ++ [x]).length : Int) := by rw [qB (by omega) (by omega)]; simp
      have e4 : (decide ((x.toNat : Int) < (32 : Int)) || decide ((x.toNat : Int) > (126 : Int))) = !ZF x := by
        unfold ZF
        rw [Bool.eq_iff_iff]; simp only [Bool.or_eq_true, decide_eq_true_eq, Bool.not_eq_true', decide_eq_false_iff_not]; omega
      rw [if_pos (by omega), zx (by omega), qn, e1, e4, e3, List.all_cons]
      cases hx : ZF x with
      | false => rfl
      | true =>
        rw [Bool.not_true, cond_false, Bool.true_and, qF]
        exact ih (D ++ [x]) T (by rw [← h1]; simp) (by omega)
theorem Xp (K : Nat) (s : List UInt8) (hs : s.length ≤ 9223372036854775807) (hK : s.length < K) : q4.m K s = .ok (jY s) :=
  QK K s hs K [] s rfl hK
def zB (n : Nat) : Nat := (n + 3) / 4 * 4
theorem QO (x : BitVec 64) : x &&& ~~~ 3#64 = (x >>> 2) <<< 2 := by
  apply BitVec.eq_of_getLsbD_eq
  intro i hi
  rcases i with _ | _ | i
  · simp
  · simp
  · have : (3#64).getLsbD (i + 2) = false := by
      simp only [BitVec.getLsbD_ofNat]
      have : Nat.testBit 3 (i + 2) = false := by
        rw [Nat.testBit_eq_decide_div_mod_eq]
        have : 3 / 2 ^ (i + 2) = 0 := Nat.div_eq_of_lt (by rw [Nat.pow_add]; have := Nat.two_pow_pos i; omega)
        rw [this]; rfl
      rw [this]; simp
    rw [BitVec.getLsbD_and, BitVec.getLsbD_not, BitVec.getLsbD_shiftLeft, BitVec.getLsbD_ushiftRight, show i + 1 + 1 = i + 2 from rfl, this]
    have h2 : decide (i + 2 < 64) = true := decide_eq_true hi
    have h3 : decide (i + 2 < 2) = false := decide_eq_false (by omega)
    rw [h2, h3, show 2 + (i + 2 - 2) = i + 2 by omega]; simp
theorem XB {n : Nat} (h : n < 9223372036854775804) : um .i64 (n : Int) 3 = ((n / 4 * 4 : Nat) : Int) := by
  show IntKind.i64.wrap ((BitVec.ofInt 64 (n : Int) &&& ~~~ BitVec.ofInt 64 (3 : Int)).toNat : Int) = _
  have e : (BitVec.ofInt 64 (n : Int) &&& ~~~ BitVec.ofInt 64 (3 : Int)).toNat = n / 4 * 4 := by
    rw [yT, show BitVec.ofInt 64 (3 : Int) = 3#64 from rfl, QO]; simp; omega
  rw [e]
  exact qB (by omega) (by omega)
theorem yU (K n : Nat) (h : n < 9223372036854775000) : z2.m K (n : Int) = .ok ((zB n : Nat) : Int) := by
  unfold z2.m zB
  rw [qB (by omega) (by omega), show (n : Int) + 3 = ((n + 3 : Nat) : Int) by omega, XB (by omega), qF]
theorem Zk (K n : Nat) (h : n < 9223372036854775000) : zz.m K (n : Int) = .ok ((zB n : Nat) : Int) := by
  unfold zz.m zB
  have e : jg .i64 ((n + 3 : Nat) : Int) 4 = (((n + 3) / 4 : Nat) : Int) := ut (b := 4) (by omega) (by decide)
  rw [qB (x := (n : Int) + 3) (by omega) (by omega), show (n : Int) + 3 = ((n + 3 : Nat) : Int) by omega, e, qB (by omega) (by omega), qF]
  congr 1
theorem w4 : ZC 4 := .inr (.inr (.inl rfl))
theorem w2 : ZC 2 := .inr (.inl rfl)
theorem Qv (K n : Nat) (h : n < 4294967296) (hK : 8 < K) : yQ.m K (n : Int) = .ok (xe 4 n) := by
  unfold yQ.m
  have := uQ K n 4 w4 (by omega) hK
  rw [show ((4 : Nat) : Int) = 4 from rfl] at this
  rw [xk (by omega) (by omega), this, qJ.bind_ok]
  unfold yq
  rw [if_pos (by omega)]
theorem Qt (K n : Nat) (h : n < 65536) (hK : 8 < K) : yP.m K (n : Int) = .ok (xe 2 n) := by
  unfold yP.m
  have := uQ K n 2 w2 (by omega) hK
  rw [show ((2 : Nat) : Int) = 2 from rfl] at this
  rw [xk (by omega) (by omega), this, qJ.bind_ok]
  unfold yq
  rw [if_pos (by omega)]
theorem X4 (K n : Nat) (h : n < 4294967296) (hK : 8 < K) : zY.m K (n : Int) = .ok (xe 4 n) := by
  unfold zY.m
  have := uE K n 4 w4 (by omega) hK
  rw [show ((4 : Nat) : Int) = 4 from rfl] at this
  rw [xk (by omega) (by omega), this, qJ.bind_ok]
  unfold yq
  rw [if_pos (by omega)]
theorem ZW (K n : Nat) (h : n < 65536) (hK : 8 < K) : zr.m K (n : Int) = .ok (xe 2 n) := by
  unfold zr.m
  have := uE K n 2 w2 (by omega) hK
  rw [show ((2 : Nat) : Int) = 2 from rfl] at this
  rw [xk (by omega) (by omega), this, qJ.bind_ok]
  unfold yq
  rw [if_pos (by omega)]
def zQ (kind n : Nat) : List UInt8 := (((xe 4 kind ++ xe 2 n) ++ xe 2 (16 * 2 ^ n.log2)) ++ xe 2 n.log2) ++ xe 2 (16 * (n - 2 ^ n.log2))
theorem zS (kind n : Nat) : (zQ kind n).length = 12 := by simp [zQ, zE]
theorem Qn (K kind n : Nat) (hk : kind < 4294967296) (hn : n ≤ 1000) (hK : 8 < K) : ∀ (k e : Nat), 2 ^ e ≤ n → n < e + k →
    zD.l1 K (kind : Int) (n : Int) k ((2 ^ e : Nat) : Int) (e : Int) = .ok (zQ kind n) ∧ qE.l1 K (kind : Int) (n : Int) k ((2 ^ e : Nat) : Int) (e : Int) = .ok (zQ kind n) := by
  intro k
  induction k with
  | zero =>
    intro e h1 h2
    have := Nat.lt_two_pow_self (n := e)
    omega
  | succ k ih =>
    intro e h1 h2
    have hlt := Nat.lt_two_pow_self (n := e)
    have e2 : qC ((2 : Int) * ((2 ^ e : Nat) : Int)) = ((2 ^ (e + 1) : Nat) : Int) := by rw [qB (by omega) (by omega), Nat.pow_succ]; omega
    have e2' : qC (((2 ^ e : Nat) : Int) * 2) = ((2 ^ (e + 1) : Nat) : Int) := by rw [qB (by omega) (by omega), Nat.pow_succ]; omega
    have e1 : qC ((e : Int) + 1) = ((e + 1 : Nat) : Int) := by rw [qB (by omega) (by omega)]; omega
    rw [zD.l1, qE.l1, qL, qL, e2]
    by_cases hc : 2 ^ (e + 1) ≤ n
    · rw [if_pos (by omega), if_pos (by omega), qF, qF, qF, qF, e1, e2']
      exact ih (e + 1) hc (by omega)
    · rw [if_neg (by omega), if_neg (by omega)]
      have hlog : n.log2 = e := (Nat.log2_eq_iff (by omega)).2 ⟨h1, by omega⟩
      have e3 : wr .i64 (kind : Int) = (kind : Int) := xC (by omega) (by omega)
      have e4 : qC ((16 : Int) * ((2 ^ e : Nat) : Int)) = ((16 * 2 ^ e : Nat) : Int) := by rw [qB (by omega) (by omega)]; omega
      have e5 : qC ((16 : Int) * qC ((n : Int) - ((2 ^ e : Nat) : Int))) = ((16 * (n - 2 ^ e) : Nat) : Int) := by
        rw [qB (x := (n : Int) - _) (by omega) (by omega), qB (by omega) (by omega)]; omega
      unfold zQ
      rw [hlog]
      constructor
      · rw [e3, Qv K kind hk hK, qJ.bind_ok, Qt K n (by omega) hK, qJ.bind_ok, zg (by simp [zE]), qn, e4, Qt K _ (by omega) hK, qJ.bind_ok, zg (by simp [zE]), qn,
          Qt K e (by omega) hK, qJ.bind_ok, zg (by simp [zE]), qn, e5, Qt K _ (by omega) hK, qJ.bind_ok, zg (by simp [zE]), qn, qF]
      · unfold qE.j2
        rw [e3, X4 K kind hk hK, qJ.bind_ok, ZW K n (by omega) hK, qJ.bind_ok, zg (by simp [zE]), qn, e4, ZW K _ (by omega) hK, qJ.bind_ok, zg (by simp [zE]), qn,
          ZW K e (by omega) hK, qJ.bind_ok, zg (by simp [zE]), qn, e5, ZW K _ (by omega) hK, qJ.bind_ok, zg (by simp [zE]), qn, qF]
theorem uA (K kind n : Nat) (hk : kind < 4294967296) (h1 : 1 ≤ n) (hn : n ≤ 1000) (hK : 1000 < K) : zD.m K (kind : Int) (n : Int) = .ok (zQ kind n) :=
  (Qn K kind n hk hn (by omega) K 0 (by simpa using h1) (by omega)).1
theorem ZX (K kind n : Nat) (hk : kind < 4294967296) (h1 : 1 ≤ n) (hn : n ≤ 1000) (hK : 1000 < K) : qE.m K (kind : Int) (n : Int) = .ok (zQ kind n) :=
  (Qn K kind n hk hn (by omega) K 0 (by simpa using h1) (by omega)).2
def Xy (p : Option (List UInt8)) (t : Tb) : Bool := jY t.Tag_ && ((match p with | none => true | some q => Op.bytesLess q t.Tag_) && decide (t.Data_.length ≤ 16777216))
def j9 : Option (List UInt8) → List Tb → Bool
  | _, [] => true
  | p, t :: r => Xy p t && j9 (some t.Tag_) r
def yd : List Tb → Nat
  | [] => 0
  | t :: r => zB t.Data_.length + yd r
def yM (D : List Tb) : Option (List UInt8) := D.getLast?.map (·.Tag_)
theorem yi (D : List Tb) (t : Tb) : yM (D ++ [t]) = some t.Tag_ := by simp [yM]
theorem ZH (K : Nat) (l : List Tb) (hl : l.length ≤ 100000) (hb : ∀ t ∈ l, t.Tag_.length ≤ 9223372036854775807 ∧ t.Tag_.length < K) : ∀ (k : Nat) (D T : List Tb) (all : Nat), D ++ T = l → T.length < k → all + yd T < 1099511627776 →
    qM.l1 K l k (all : Int) (D.length : Int) = .ok (j9 (yM D) T && ((decide (0 < l.length) && decide (l.length ≤ 1000)) && decide (all + yd T < 1073741824))) := by
  intro k
  induction k with
  | zero => intro D T all _ h; omega
  | succ k ih =>
    intro D T all h1 hk hall
    have hlen : D.length + T.length = l.length := by rw [← h1]; simp
    rw [qM.l1, qL]
    cases T with
    | nil =>
      rw [if_neg (by simp only [List.length_nil] at hlen; omega)]
      unfold qM.j3
      rw [qF, j9, Bool.true_and, yd, Nat.add_zero]
      congr 1
      rw [show decide ((l.length : Int) > 0) = decide (0 < l.length) from by rw [decide_eq_decide]; omega, show decide ((l.length : Int) ≤ 1000) = decide (l.length ≤ 1000) from by rw [decide_eq_decide]; omega,
        show decide ((all : Int) < 1073741824) = decide (all < 1073741824) from by rw [decide_eq_decide]; omega]
    | cons t T =>
      simp only [List.length_cons] at hlen hk
      rw [yd] at hall
      have e1 : rd l (D.length : Int) = t := by rw [← h1]; exact yx D t T rfl
      have ht := hb t (by rw [← h1]; simp)
      have e3 : qC ((D.length : Int) + 1) = ((D ++ [t]).length : Int) := by rw [qB (by omega) (by omega)]; simp
      have hup : t.Data_.length ≤ zB t.Data_.length := by unfold zB; omega
      have next : qM.j2 K (qM.l1 K l k) l (all : Int) (D.length : Int) false = .ok (j9 (some t.Tag_) T && ((decide (0 < l.length) && decide (l.length ≤ 1000)) && decide (all + yd (t :: T) < 1073741824))) := by
        unfold qM.j2
        rw [cond_false, e1, yU K _ (by omega), qJ.bind_ok, qB (by omega) (by omega), qF, e3, show (all : Int) + ((zB t.Data_.length : Nat) : Int) = ((all + zB t.Data_.length : Nat) : Int) by omega,
          ih (D ++ [t]) T _ (by rw [← h1]; simp) (by omega) (by omega), yi, yd, Nat.add_assoc]
      have stop : ∀ g, qM.j2 K g l (all : Int) (D.length : Int) true = .ok false := fun g => rfl
      have eD : decide (((t.Data_.length : Nat) : Int) > 16777216) = !decide (t.Data_.length ≤ 16777216) := by
        rw [Bool.eq_iff_iff]; simp only [Bool.not_eq_true', decide_eq_true_eq, decide_eq_false_iff_not]; omega
      rw [if_pos (by omega), zx (by omega), qn, e1, Qu K _ ht.1 ht.2, qJ.bind_ok, eD, j9]
      unfold Xy
      cases htag : jY t.Tag_ with
      | false => rw [cond_false, stop, Bool.false_and, Bool.false_and, Bool.false_and]
      | true =>
        rw [cond_true, qL, Bool.true_and]
        have dcase : ∀ b : Bool, qM.j2 K (qM.l1 K l k) l (all : Int) (D.length : Int) (!b) = .ok ((b && j9 (some t.Tag_) T) && ((decide (0 < l.length) && decide (l.length ≤ 1000)) && decide (all + yd (t :: T) < 1073741824))) := by
          intro b
          cases b with
          | false => rw [Bool.not_false, stop, Bool.false_and, Bool.false_and]
          | true => rw [Bool.not_true, next, Bool.true_and]
        rcases List.eq_nil_or_concat D with rfl | ⟨D', q, rfl⟩
        · rw [if_neg (by simp), dcase]; rfl
        · have e4 : qC (((D'.concat q).length : Int) - 1) = (D'.length : Int) := by rw [qB (by omega) (by omega)]; simp
          have e5 : rd l (D'.length : Int) = q := by rw [← h1]; simp only [List.concat_eq_append, List.append_assoc, List.singleton_append]; exact yx D' q _ rfl
          have hi : (D'.concat q).length = D'.length + 1 := by simp
          rw [if_pos (by rw [hi]; omega), e4, zx (by rw [hi] at hlen; omega), qn, e5, yg]
          have ep : yM (D'.concat q) = some q.Tag_ := by rw [List.concat_eq_append]; exact yi D' q
          rw [ep]
          dsimp only
          cases hless : Op.bytesLess q.Tag_ t.Tag_ with
          | false => rw [cond_false, stop, Bool.false_and, Bool.false_and, Bool.false_and]
          | true => rw [cond_true, dcase, Bool.true_and]
theorem Zf (K : Nat) (l : List Tb) (hl : l.length ≤ 100000) (hb : ∀ t ∈ l, t.Tag_.length ≤ 9223372036854775807 ∧ t.Tag_.length < K) (hs : yd l < 1073741824) (hK : l.length < K) :
    qM.m K l = .ok (j9 none l && (decide (0 < l.length) && decide (l.length ≤ 1000))) := by
  have := ZH K l hl hb K [] l 0 rfl hK (by omega)
  rw [Nat.zero_add, decide_eq_true hs, Bool.and_true] at this
  exact this
theorem Xi (K : Nat) (l : List Tb) (hl : l.length ≤ 100000) (hb : ∀ t ∈ l, t.Tag_.length ≤ 9223372036854775807 ∧ t.Tag_.length < K) : ∀ (k : Nat) (D T : List Tb) (all : Nat), D ++ T = l → T.length < k → all + yd T < 1073741824 →
    qj.l1 K l k (all : Int) (D.length : Int) = .ok (j9 (yM D) T) := by
  intro k
  induction k with
  | zero => intro D T all _ h; omega
  | succ k ih =>
    intro D T all h1 hk hall
    have hlen : D.length + T.length = l.length := by rw [← h1]; simp
    rw [qj.l1, qL]
    cases T with
    | nil =>
      rw [if_neg (by simp only [List.length_nil] at hlen; omega)]; rfl
    | cons t T =>
      simp only [List.length_cons] at hlen hk
      rw [yd] at hall
      have e1 : rd l (D.length : Int) = t := by rw [← h1]; exact yx D t T rfl
      have ht := hb t (by rw [← h1]; simp)
      have e3 : qC ((D.length : Int) + 1) = ((D ++ [t]).length : Int) := by rw [qB (by omega) (by omega)]; simp
      have hup : t.Data_.length ≤ zB t.Data_.length := by unfold zB; omega
      have next : qj.j2 K (qj.l1 K l k) l (all : Int) (D.length : Int) false = .ok (j9 (some t.Tag_) T) := by
        unfold qj.j2
        rw [cond_false, zx (by omega), qn, e1, Zk K _ (by omega), qJ.bind_ok, qB (by omega) (by omega), qF, qL, if_neg (by omega), e3, qF, show (all : Int) + ((zB t.Data_.length : Nat) : Int) = ((all + zB t.Data_.length : Nat) : Int) by omega,
          ih (D ++ [t]) T _ (by rw [← h1]; simp) (by omega) (by omega), yi]
      have stop : ∀ g, qj.j2 K g l (all : Int) (D.length : Int) true = .ok false := fun g => rfl
      have eD : decide (((t.Data_.length : Nat) : Int) > 16777216) = !decide (t.Data_.length ≤ 16777216) := by
        rw [Bool.eq_iff_iff]; simp only [Bool.not_eq_true', decide_eq_true_eq, decide_eq_false_iff_not]; omega
      rw [if_pos (by omega), zx (by omega), qn, e1, Xp K _ ht.1 ht.2, qJ.bind_ok, eD, j9]
      unfold Xy
      cases htag : jY t.Tag_ with
      | false => rw [cond_false, stop, Bool.false_and, Bool.false_and]
      | true =>
        rw [cond_true, qL, Bool.true_and]
        have dcase : ∀ b : Bool, qj.j2 K (qj.l1 K l k) l (all : Int) (D.length : Int) (!b) = .ok (b && j9 (some t.Tag_) T) := by
          intro b
          cases b with
          | false => rw [Bool.not_false, stop, Bool.false_and]
          | true => rw [Bool.not_true, next, Bool.true_and]
        rcases List.eq_nil_or_concat D with rfl | ⟨D', q, rfl⟩
        · rw [if_neg (by simp), dcase]; rfl
        · have e4 : qC (((D'.concat q).length : Int) - 1) = (D'.length : Int) := by rw [qB (by omega) (by omega)]; simp
          have e5 : rd l (D'.length : Int) = q := by rw [← h1]; simp only [List.concat_eq_append, List.append_assoc, List.singleton_append]; exact yx D' q _ rfl
          have hi : (D'.concat q).length = D'.length + 1 := by simp
          rw [if_pos (by rw [hi]; omega), e4, zx (by rw [hi] at hlen; omega), qn, e5, yg]
          have ep : yM (D'.concat q) = some q.Tag_ := by rw [List.concat_eq_append]; exact yi D' q
          rw [ep]
          dsimp only
          cases hless : Op.bytesLess q.Tag_ t.Tag_ with
          | false => rw [cond_false, stop, Bool.false_and, Bool.false_and]
          | true => rw [cond_true, dcase, Bool.true_and]
theorem Xo (K : Nat) (l : List Tb) (hl : l.length ≤ 100000) (hb : ∀ t ∈ l, t.Tag_.length ≤ 9223372036854775807 ∧ t.Tag_.length < K) (hs : yd l < 1073741824) (hK : l.length < K) :
    qj.m K l = .ok (j9 none l && (decide (0 < l.length) && decide (l.length ≤ 1000))) := by
  unfold qj.m
  have := Xi K l hl hb K [] l 0 rfl hK (by omega)
  have d : (decide ((l.length : Int) < 1) || decide ((l.length : Int) > 1000)) = !(decide (0 < l.length) && decide (l.length ≤ 1000)) := by
    rw [Bool.eq_iff_iff]; simp only [Bool.or_eq_true, decide_eq_true_eq, Bool.not_eq_true', Bool.and_eq_false_iff, decide_eq_false_iff_not]; omega
  rw [d]
  cases (decide (0 < l.length) && decide (l.length ≤ 1000)) with
  | false => rw [Bool.not_false, cond_true, Bool.and_false]
  | true => rw [Bool.not_true, cond_false, Bool.and_true]; exact this
def uN : List Tb → Nat
  | [] => 0
  | t :: r => t.Data_.length + uN r
theorem Zt (K : Nat) (l : List Tb) (hl : l.length ≤ 1001) : ∀ (k : Nat) (D T : List Tb) (n : Nat), D ++ T = l → T.length < k → n ≤ 105000 →
    ∃ b, qR.l1 K l k (n : Int) (D.length : Int) = .ok b ∧ (b = true → n + uN T ≤ 105000 ∧ ∀ t ∈ T, t.Data_.length ≤ 5000) := by
  intro k
  induction k with
  | zero => intro D T n _ h; omega
  | succ k ih =>
    intro D T n h1 hk hn
    have hlen : D.length + T.length = l.length := by rw [← h1]; simp
    rw [qR.l1, qL]
    cases T with
    | nil =>
      rw [if_neg (by simp only [List.length_nil] at hlen; omega)]
      exact ⟨true, rfl, fun _ => ⟨by simpa [uN] using hn, by simp⟩⟩
    | cons t T =>
      simp only [List.length_cons] at hlen hk
      have e1 : rd l (D.length : Int) = t := by rw [← h1]; exact yx D t T rfl
      have e3 : qC ((D.length : Int) + 1) = ((D ++ [t]).length : Int) := by rw [qB (by omega) (by omega)]; simp
      rw [if_pos (by omega), zx (by omega), qn, e1, j4, qL, qL]
      by_cases h5 : t.Data_.length > 5000
      · rw [if_pos (by omega)]; exact ⟨false, rfl, fun h => by cases h⟩
      · rw [if_neg (by omega)]
        by_cases h6 : n > 100000
        · rw [if_pos (by omega)]; exact ⟨false, rfl, fun h => by cases h⟩
        · rw [if_neg (by omega), qF, qF, e3, qB (by omega) (by omega), show (n : Int) + ((t.Data_.length : Nat) : Int) = ((n + t.Data_.length : Nat) : Int) by omega]
          obtain ⟨b, hb, h⟩ := ih (D ++ [t]) T (n + t.Data_.length) (by rw [← h1]; simp) (by omega) (by omega)
          refine ⟨b, hb, fun hbt => ?_⟩
          obtain ⟨q1, q2⟩ := h hbt
          refine ⟨by rw [uN]; omega, fun u hu => ?_⟩
          rcases List.mem_cons.1 hu with rfl | hu
          · omega
          · exact q2 u hu
theorem Qx : ∀ l : List Tb, yd l ≤ uN l + 3 * l.length
  | [] => by simp [yd]
  | t :: r => by
    have := Qx r
    rw [yd, uN, List.length_cons]; unfold zB; omega
theorem XM (K : Nat) (l : List Tb) (hK : 1002 ≤ K) : ∃ b, qR.m K l = .ok b ∧ (b = true → l.length ≤ 1001 ∧ uN l ≤ 105000 ∧ yd l ≤ 108003 ∧ ∀ t ∈ l, t.Data_.length ≤ 5000) := by
  unfold qR.m
  rw [qL]
  by_cases h : l.length > 1001
  · rw [if_pos (by omega)]; exact ⟨false, rfl, fun h => by cases h⟩
  · rw [if_neg (by omega)]
    obtain ⟨b, hb, h2⟩ := Zt K l (by omega) K [] l 0 rfl (by omega) (by omega)
    refine ⟨b, hb, fun hbt => ?_⟩
    obtain ⟨q1, q2⟩ := h2 hbt
    have := Qx l
    exact ⟨by omega, by omega, by omega, q2⟩
theorem Z0 (K : Nat) (l : List Tb) (hl : l.length ≤ 100000) : ∀ (k : Nat) (D T : List Tb), D ++ T = l → T.length < k → qQ.l1 K l l k (D.length : Int) = .ok true := by
  intro k
  induction k with
  | zero => intro D T _ h; omega
  | succ k ih =>
    intro D T h1 hk
    have hlen : D.length + T.length = l.length := by rw [← h1]; simp
    rw [qQ.l1, qL]
    cases T with
    | nil => rw [if_neg (by simp only [List.length_nil] at hlen; omega)]
    | cons t T =>
      simp only [List.length_cons] at hlen hk
      have e3 : qC ((D.length : Int) + 1) = ((D ++ [t]).length : Int) := by rw [qB (by omega) (by omega)]; simp
      rw [if_pos (by omega), zx (by omega), qn, qn]
      simp only [beq_self_eq_true, Bool.and_self, Bool.not_true, cond_false, qF]
      rw [e3]
      exact ih (D ++ [t]) T (by rw [← h1]; simp) (by omega)
theorem same (K : Nat) (l : List Tb) (hl : l.length ≤ 100000) (hK : l.length < K) : qQ.m K l l = .ok true := by
  unfold qQ.m
  rw [show ((l.length : Int) != (l.length : Int)) = false from by simp, cond_false]
  exact Z0 K l hl K [] l rfl hK
end Go.Pn

set_option maxRecDepth 100000
namespace Go.Pn
open Go Go.Sl Go.Pu Go.Mo
def jX (at_ : Nat) (t : Tb) : List UInt8 := ((t.Tag_ ++ xe 4 (xN t.Data_)) ++ xe 4 at_) ++ xe 4 t.Data_.length
def vA (t : Tb) : List UInt8 := t.Data_ ++ List.replicate (zB t.Data_.length - t.Data_.length) 0
theorem yh (t : Tb) : (vA t).length = zB t.Data_.length := by simp [vA]; unfold zB; omega
def vv : Nat → List Tb → List UInt8
  | _, [] => []
  | at_, t :: r => jX at_ t ++ vv (at_ + zB t.Data_.length) r
def vd : List Tb → List UInt8
  | [] => []
  | t :: r => vA t ++ vd r
theorem vt {at_ : Nat} {t : Tb} (h : t.Tag_.length = 4) : (jX at_ t).length = 16 := by simp [jX, zE, h]
def XG (kind : Nat) (l : List Tb) : List UInt8 := zQ kind l.length ++ vv (12 + 16 * l.length) l ++ vd l
theorem jj : ∀ (p : Option (List UInt8)) (l : List Tb), j9 p l = true → ∀ t ∈ l, jY t.Tag_ = true ∧ t.Data_.length ≤ 16777216
  | _, [], _ => by simp
  | p, t :: r, h => by
    rw [j9, Bool.and_eq_true] at h
    intro u hu
    rcases List.mem_cons.1 hu with rfl | hu
    · have h2 := h.1
      unfold Xy at h2
      simp only [Bool.and_eq_true, decide_eq_true_eq] at h2
      exact ⟨h2.1, h2.2.2⟩
    · exact jj _ r h.2 u hu
theorem x6 (a b : List UInt8) : a.map xW ++ b.map xW = (a ++ b).map xW := by rw [List.map_append]
theorem X7 (n : Nat) (h : n ≤ 1000) : Zn ([0] : List UInt8) (n : Int) = .ok (List.replicate n 0) := by
  unfold Zn
  rw [show (decide (0 ≤ (n : Int)) && decide ((n : Int) ≤ 9223372036854775807) && decide (([0] : List UInt8).length * (n : Int).toNat ≤ 140737488355328)) = true from by
    simp only [Bool.and_eq_true, decide_eq_true_eq, List.length_singleton, Int.toNat_natCast]; omega, qn, Int.toNat_natCast]
  congr 1
  induction n with
  | zero => rfl
  | succ n ih => rw [List.replicate_succ, List.flatten_cons, ih (by omega)]; rfl
theorem vY (K kind : Nat) (l : List Tb) (hk : kind < 4294967296) (hl : 1 ≤ l.length ∧ l.length ≤ 1000) (htag : ∀ t ∈ l, t.Tag_.length = 4) (hd : ∀ t ∈ l, t.Data_.length < K) (hK : 1000 < K) :
    ∀ (k : Nat) (D T : List Tb) (R B : List UInt8), D ++ T = l → T.length < k → B.length + yd T < 1073741824 → R.length = 16 * D.length →
    qS.l2 K (kind : Int) l ((12 + 16 * l.length : Nat) : Int) k (R.map xW) (B.map xW) (D.length : Int) =
      .ok (zQ kind l.length ++ (R ++ vv (12 + 16 * l.length + B.length) T) ++ (B ++ vd T), 0) := by
  intro k
  induction k with
  | zero => intro D T _ _ _ h; omega
  | succ k ih =>
    intro D T R B h1 hk2 hB hR
    have hlen : D.length + T.length = l.length := by rw [← h1]; simp
    rw [qS.l2, qL]
    cases T with
    | nil =>
      rw [if_neg (by simp only [List.length_nil] at hlen; omega)]
      simp only [List.length_nil] at hlen
      unfold qS.j3 zi.m
      rw [uA K kind l.length hk hl.1 hl.2 hK, qJ.bind_ok, qF, qJ.bind_ok, xK, zg (by rw [zS]; omega), qn, qF, qJ.bind_ok, xK,
        zg (by rw [List.length_append, zS]; omega), qn, qF, vv, vd, List.append_nil, List.append_nil]
    | cons t T =>
      simp only [List.length_cons] at hlen hk2
      rw [yd] at hB
      have e1 : rd l (D.length : Int) = t := by rw [← h1]; exact yx D t T rfl
      have htl := htag t (by rw [← h1]; simp)
      have hdl := hd t (by rw [← h1]; simp)
      have hup : t.Data_.length ≤ zB t.Data_.length ∧ zB t.Data_.length ≤ t.Data_.length + 3 := by unfold zB; omega
      have hw := vx t.Data_
      have e3 : qC ((D.length : Int) + 1) = ((D ++ [t]).length : Int) := by rw [qB (by omega) (by omega)]; simp
      have eat : qC (((12 + 16 * l.length : Nat) : Int) + (((B.map xW).length : Nat) : Int)) = ((12 + 16 * l.length + B.length : Nat) : Int) := by rw [List.length_map, qB (by omega) (by omega)]; omega
      have epd : qC (((zB t.Data_.length : Nat) : Int) - ((t.Data_.length : Nat) : Int)) = ((zB t.Data_.length - t.Data_.length : Nat) : Int) := by rw [qB (by omega) (by omega)]; omega
      have lw : ∀ A, (xe 4 A).length = 4 := zE 4
      rw [if_pos (by omega), zx (by omega), qn, e1, vO K _ (by omega) hdl, qJ.bind_ok, xC (x := ((xN t.Data_ : Nat) : Int)) (by omega) (by omega), Qv K _ hw (by omega), qJ.bind_ok, zg (by rw [htl, lw]; omega), qn]
      unfold zJ.m za.m strings_Repeat.m
      rw [qF, qJ.bind_ok, eat, Qv K _ (by omega) (by omega), qJ.bind_ok, zg (by simp only [List.length_append, htl, lw]; omega), qn, Qv K _ (by omega) (by omega), qJ.bind_ok, zg (by simp only [List.length_append, htl, lw]; omega), qn,
        xw (by simp only [List.length_append, List.length_map, htl, lw]; omega), qn, qF, qF, qJ.bind_ok]
      dsimp only
      rw [yU K _ (by omega), qJ.bind_ok, epd, X7 _ (by omega), qJ.bind_ok, qJ.bind_ok, zg (by rw [List.length_replicate]; omega), qn, xw (by simp only [List.length_append, List.length_map, List.length_replicate]; omega), qn, qF, qF, qJ.bind_ok]
      dsimp only
      rw [e3, x6, x6, show ((t.Tag_ ++ xe 4 (xN t.Data_)) ++ xe 4 (12 + 16 * l.length + B.length)) ++ xe 4 t.Data_.length = jX (12 + 16 * l.length + B.length) t from rfl,
        show t.Data_ ++ List.replicate (zB t.Data_.length - t.Data_.length) 0 = vA t from rfl, ih (D ++ [t]) T _ _ (by rw [← h1]; simp) (by omega) (by rw [List.length_append, yh]; omega) (by rw [List.length_append, vt htl, hR, List.length_append, List.length_singleton]; omega),
        vv, vd, List.length_append, yh, List.append_assoc R, List.append_assoc B, Nat.add_assoc (12 + 16 * l.length)]
theorem Q6 (kind : Nat) : (((kind : Int) == (65536 : Int)) || ((kind : Int) == (1330926671 : Int))) = decide (kind = 65536 ∨ kind = 1330926671) := by
  rw [Bool.eq_iff_iff]; simp only [Bool.or_eq_true, beq_iff_eq, decide_eq_true_eq]; omega
def Qe (kind : Nat) (l : List Tb) : List UInt8 × Int :=
  if (kind = 65536 ∨ kind = 1330926671) ∧ j9 none l = true ∧ 0 < l.length ∧ l.length ≤ 1000 then (XG kind l, 0) else ([], 1)
theorem QI (K kind : Nat) (l : List Tb) (hk : kind < 4294967296) (hl : l.length ≤ 100000) (hb : ∀ t ∈ l, t.Tag_.length ≤ 9223372036854775807 ∧ t.Tag_.length < K) (hs : yd l < 1073741824) (hd : ∀ t ∈ l, t.Data_.length < K) (hK : 100000 < K) :
    qS.m K (kind : Int) l = .ok (Qe kind l) := by
  unfold qS.m xo.m Qe
  rw [Q6, qF, qJ.bind_ok]
  have dl : decide ((l.length : Int) > 1000) = !decide (l.length ≤ 1000) := by rw [Bool.eq_iff_iff]; simp only [Bool.not_eq_true', decide_eq_true_eq, decide_eq_false_iff_not]; omega
  rw [dl]
  by_cases h1 : kind = 65536 ∨ kind = 1330926671
  · rw [decide_eq_true h1, Bool.not_true, Bool.false_or, yg, qL]
    by_cases h2 : l.length ≤ 1000
    · rw [if_pos h2, Zf K l hl hb hs (by omega), qJ.bind_ok, decide_eq_true h2, Bool.and_true]
      unfold qS.j1
      cases h3 : j9 none l with
      | false => rw [if_neg (by simp)]; rfl
      | true =>
        by_cases h4 : 0 < l.length
        · rw [decide_eq_true h4, if_pos ⟨h1, rfl, h4, h2⟩, Bool.true_and, Bool.not_true, cond_false, qF]
          have ef : qC ((12 : Int) + qC ((16 : Int) * (l.length : Int))) = ((12 + 16 * l.length : Nat) : Int) := by rw [qB (x := 16 * _) (by omega) (by omega), qB (by omega) (by omega)]; omega
          have ht := jj none l h3
          have := vY K kind l hk ⟨h4, h2⟩ (fun t h => yl (ht t h).1) hd (by omega) K [] l [] [] rfl (by omega) (by simpa using hs) rfl
          rw [ef]
          exact this
        · rw [decide_eq_false h4, if_neg (fun h => h4 h.2.2.1)]; rfl
    · rw [if_neg h2, if_neg (fun h => h2 h.2.2.2)]; rfl
  · rw [decide_eq_false h1, if_neg (fun h => h1 h.1)]; rfl
end Go.Pn

set_option maxRecDepth 100000
namespace Go.Pn
open Go Go.Sl Go.Pu Go.Mo
abbrev Sp := q7
structure ZA (S : List Sp) : Prop where
  each : ∀ x ∈ S, 0 ≤ x.Lo_ ∧ x.Lo_ < x.Hi_ ∧ x.Hi_ < 2305843009213693952
  srt : S.Pairwise fun x y => x.Hi_ ≤ y.Lo_
def vj (S : List Sp) (lo hi : Int) : List Sp := S.takeWhile (fun x => decide (x.Hi_ ≤ lo)) ++ ⟨lo, hi⟩ :: S.dropWhile (fun x => decide (x.Hi_ ≤ lo))
def xX (S : List Sp) (lo hi : Int) : Bool := S.any fun x => decide (lo < x.Hi_) && decide (x.Lo_ < hi)
theorem Q3 (S : List Sp) (lo hi : Int) : (vj S lo hi).length = S.length + 1 := by
  have := congrArg List.length (List.takeWhile_append_dropWhile (p := fun x : Sp => decide (x.Hi_ ≤ lo)) (l := S))
  rw [List.length_append] at this
  unfold vj
  rw [List.length_append, List.length_cons]; omega
theorem ur {S : List Sp} {lo hi : Int} {x : Sp} : x ∈ vj S lo hi ↔ x = ⟨lo, hi⟩ ∨ x ∈ S := by
  have e := List.takeWhile_append_dropWhile (p := fun x : Sp => decide (x.Hi_ ≤ lo)) (l := S)
  unfold vj
  constructor
  · intro h
    rcases List.mem_append.1 h with h | h
    · right; rw [← e]; exact List.mem_append_left _ h
    · rcases List.mem_cons.1 h with h | h
      · exact .inl h
      · right; rw [← e]; exact List.mem_append_right _ h
  · rintro (rfl | h)
    · exact List.mem_append_right _ (List.mem_cons_self ..)
    · rw [← e] at h
      rcases List.mem_append.1 h with h | h
      · exact List.mem_append_left _ h
      · exact List.mem_append_right _ (List.mem_cons_of_mem _ h)
theorem XD {S : List Sp} (h : ZA S) (lo : Int) : ∃ A B, S = A ++ B ∧ (∀ x ∈ A, x.Hi_ ≤ lo) ∧ (∀ x ∈ B, lo < x.Hi_) ∧ ∀ hi, vj S lo hi = A ++ ⟨lo, hi⟩ :: B := by
  refine ⟨S.takeWhile (fun x => decide (x.Hi_ ≤ lo)), S.dropWhile (fun x => decide (x.Hi_ ≤ lo)), List.takeWhile_append_dropWhile.symm, ?_, ?_, fun _ => rfl⟩
  · intro x hx
    have : ∀ (l : List Sp), x ∈ l.takeWhile (fun x => decide (x.Hi_ ≤ lo)) → x.Hi_ ≤ lo := by
      intro l
      induction l with
      | nil => intro h; simp at h
      | cons y l ih =>
        intro hm
        rw [List.takeWhile_cons] at hm
        cases hy : decide (y.Hi_ ≤ lo) with
        | false => rw [hy] at hm; simp at hm
        | true =>
          rw [hy] at hm
          rcases List.mem_cons.1 hm with rfl | hm
          · exact of_decide_eq_true hy
          · exact ih hm
    exact this S hx
  · have hs := h.srt
    have he := h.each
    clear h
    induction S with
    | nil => intro x hx; simp at hx
    | cons y S ih =>
      rw [List.pairwise_cons] at hs
      intro x hx
      rw [List.dropWhile_cons] at hx
      cases hy : decide (y.Hi_ ≤ lo) with
      | false =>
        rw [hy] at hx
        have hy2 : ¬ y.Hi_ ≤ lo := of_decide_eq_false hy
        rcases List.mem_cons.1 hx with rfl | hx
        · omega
        · have h1 := hs.1 x hx
          have h2 := he x (List.mem_cons_of_mem _ hx)
          omega
      | true =>
        rw [hy] at hx
        exact ih hs.2 (fun z hz => he z (List.mem_cons_of_mem _ hz)) x hx
theorem ZA.ins {S : List Sp} (h : ZA S) {lo hi : Int} (h0 : 0 ≤ lo) (h1 : lo < hi) (h2 : hi < 2305843009213693952) (hc : xX S lo hi = false) : ZA (vj S lo hi) := by
  obtain ⟨A, B, hS, hA, hB, he⟩ := XD h lo
  have hno : ∀ x ∈ S, ¬ (lo < x.Hi_ ∧ x.Lo_ < hi) := by
    intro x hx hh
    have : xX S lo hi = true := List.any_eq_true.2 ⟨x, hx, by simp only [Bool.and_eq_true, decide_eq_true_eq]; exact hh⟩
    rw [this] at hc; cases hc
  refine ⟨fun x hx => ?_, ?_⟩
  · rcases ur.1 hx with rfl | hx
    · exact ⟨h0, h1, h2⟩
    · exact h.each x hx
  · rw [he hi]
    have hs := h.srt
    rw [hS] at hs
    obtain ⟨p1, p2, p3⟩ := List.pairwise_append.1 hs
    refine List.pairwise_append.2 ⟨p1, List.pairwise_cons.2 ⟨fun y hy => ?_, p2⟩, fun x hx y hy => ?_⟩
    · have q1 := hB y hy
      have q2 := hno y (by rw [hS]; exact List.mem_append_right _ hy)
      show hi ≤ y.Lo_
      omega
    · rcases List.mem_cons.1 hy with rfl | hy
      · exact hA x hx
      · exact p3 x hx y hy
abbrev It := qa
theorem Zj {its : List It} {i : Nat} (h : i < its.length) : (rd its (i : Int)).span_ = (its.map (·.span_))[i]'(by simpa using h) := by
  rw [Xn h, List.getElem_map]
theorem ZI (K : Nat) (its : List It) (S A B : List Sp) (hS : its.map (·.span_) = S) (hAB : S = A ++ B) (lo : Int) (hA : ∀ x ∈ A, x.Hi_ ≤ lo) (hB : ∀ x ∈ B, lo < x.Hi_) (hl : its.length ≤ 1000000) :
    ∀ (k a b : Nat), a ≤ A.length → A.length ≤ b → b ≤ its.length → b - a < k → qv.l1 K ⟨its⟩ lo k (a : Int) (b : Int) = .ok (A.length : Int) := by
  intro k
  induction k with
  | zero => intro a b _ _ _ h; omega
  | succ k ih =>
    intro a b h1 h2 h3 h4
    rw [qv.l1, qL]
    by_cases hlt : a < b
    · have em : jg .i64 (qC ((a : Int) + (b : Int))) 2 = (((a + b) / 2 : Nat) : Int) := by
        rw [qB (by omega) (by omega), show (a : Int) + (b : Int) = ((a + b : Nat) : Int) by omega]
        exact ut (b := 2) (by omega) (by decide)
      have hm : (a + b) / 2 < its.length := by omega
      have hml : (a + b) / 2 < (its.map (·.span_)).length := by simpa using hm
      rw [if_pos (by omega), em, qF]
      unfold q3.m
      dsimp only
      rw [zx hm, qn, qF, qJ.bind_ok, Zj hm, qL]
      by_cases hc : (a + b) / 2 < A.length
      · have hx : (its.map (·.span_))[(a + b) / 2] ∈ A := by
          have : (its.map (·.span_))[(a + b) / 2]? = A[(a + b) / 2]? := by rw [hS, hAB, List.getElem?_append_left hc]
          rw [List.getElem?_eq_getElem hml, List.getElem?_eq_getElem hc] at this
          rw [Option.some.inj this]; exact List.getElem_mem _
        have := hA _ hx
        rw [if_neg (by omega), qB (by omega) (by omega), qF, show (((a + b) / 2 : Nat) : Int) + 1 = (((a + b) / 2 + 1 : Nat) : Int) by omega]
        exact ih _ _ (by omega) h2 h3 (by omega)
      · have hx : (its.map (·.span_))[(a + b) / 2] ∈ B := by
          have h5 : (its.map (·.span_))[(a + b) / 2]? = B[(a + b) / 2 - A.length]? := by rw [hS, hAB, List.getElem?_append_right (by omega)]
          rw [List.getElem?_eq_getElem hml] at h5
          exact List.mem_of_getElem? h5.symm
        have := hB _ hx
        rw [if_pos (by omega)]
        exact ih _ _ h1 (by omega) (by omega) (by omega)
    · rw [if_neg (by omega), show a = A.length by omega]
theorem Zg (K : Nat) (its : List It) (S A B : List Sp) (hS : its.map (·.span_) = S) (hAB : S = A ++ B) (lo : Int) (hA : ∀ x ∈ A, x.Hi_ ≤ lo) (hB : ∀ x ∈ B, lo < x.Hi_) (hl : its.length ≤ 1000000) (hK : its.length < K) :
    qv.m K ⟨its⟩ lo = .ok (A.length : Int) := by
  unfold qv.m qW.m
  rw [qJ.bind_ok, qF]
  have h1 := congrArg List.length hS
  have h2 := congrArg List.length hAB
  rw [List.length_map] at h1
  rw [List.length_append] at h2
  exact ZI K its S A B hS hAB lo hA hB hl K 0 its.length (by omega) (by omega) (Nat.le_refl _) (by omega)
theorem Qo {lo hi : Int} (h0 : 0 ≤ lo) (h1 : lo < hi) (h2 : hi < 2305843009213693952) : (((decide (lo ≥ (0 : Int))) && (decide (lo < hi))) && (decide (hi ≤ (4611686018427387904 : Int)))) = true := by
  simp only [Bool.and_eq_true, decide_eq_true_eq]; omega
theorem Qs (K : Nat) (its : List It) (S : List Sp) (hS : its.map (·.span_) = S) (hO : ZA S) (lo hi : Int) (tag : List UInt8) (h0 : 0 ≤ lo) (h1 : lo < hi) (h2 : hi < 2305843009213693952) (hl : its.length ≤ 100000) (hK : its.length < K) :
    (xX S lo hi = true ∧ q5.m K ⟨its⟩ lo hi tag = .ok (5, its)) ∨
    (xX S lo hi = false ∧ ∃ its', its'.map (·.span_) = vj S lo hi ∧ q5.m K ⟨its⟩ lo hi tag = .ok (0, its')) := by
  obtain ⟨A, B, hAB, hA, hB, hins⟩ := XD hO lo
  have hf := Zg K its S A B hS hAB lo hA hB (by omega) hK
  have hlS : its.length = S.length := by rw [← hS, List.length_map]
  have hlAB : S.length = A.length + B.length := by rw [hAB, List.length_append]
  have hcl : ql.m K ⟨its⟩ lo hi = .ok (xX S lo hi) := by
    unfold ql.m zL.m qW.m ql.j1 ql.j2 qW.m
    rw [hf, qJ.bind_ok, Qo h0 h1 h2, qF, qJ.bind_ok, cond_true, qJ.bind_ok]
    dsimp only
    cases B with
    | nil =>
      rw [decide_eq_false (by simp only [List.length_nil] at hlAB; omega), cond_false]
      congr 1
      symm
      rw [← Bool.not_eq_true]
      intro h
      obtain ⟨x, hx, h⟩ := List.any_eq_true.1 h
      simp only [Bool.and_eq_true, decide_eq_true_eq] at h
      rw [hAB, List.append_nil] at hx
      have := hA x hx
      omega
    | cons b B =>
      simp only [List.length_cons] at hlAB
      have hr : (rd its (A.length : Int)).span_ = b := by
        rw [Zj (by omega)]
        have : (its.map (·.span_))[A.length]? = some b := by rw [hS, hAB]; simp
        rw [List.getElem?_eq_getElem (by rw [List.length_map]; omega)] at this
        exact Option.some.inj this
      rw [decide_eq_true (by omega), cond_true, qJ.bind_ok, zx (by omega), qn, hr]
      congr 1
      rw [Bool.eq_iff_iff, decide_eq_true_eq]
      have hb := hB b (by simp)
      constructor
      · intro h
        exact List.any_eq_true.2 ⟨b, by rw [hAB]; simp, by simp only [Bool.and_eq_true, decide_eq_true_eq]; omega⟩
      · intro h
        obtain ⟨x, hx, h⟩ := List.any_eq_true.1 h
        simp only [Bool.and_eq_true, decide_eq_true_eq] at h
        rw [hAB] at hx
        rcases List.mem_append.1 hx with hx | hx
        · have := hA x hx; omega
        · rcases List.mem_cons.1 hx with rfl | hx
          · exact h.2
          · have hs := hO.srt
            rw [hAB] at hs
            have h3 := (List.pairwise_cons.1 (List.pairwise_append.1 hs).2.1).1 x hx
            have h4 := hO.each b (by rw [hAB]; simp)
            omega
  unfold q5.m zL.m
  rw [Qo h0 h1 h2, qF, qJ.bind_ok, Bool.not_true, qF, cond_false, hcl, qJ.bind_ok, hf, qJ.bind_ok]
  cases xX S lo hi with
  | true => exact .inl ⟨rfl, rfl⟩
  | false =>
    refine .inr ⟨rfl, its.take A.length ++ [⟨⟨lo, hi⟩, tag⟩] ++ its.drop A.length, ?_, ?_⟩
    · rw [List.map_append, List.map_append, List.map_take, List.map_drop, hS, hAB, List.take_left, List.drop_left, ← hAB, hins hi]; simp
    · unfold qw.m Q2
      dsimp only
      rw [cond_false, show (decide (0 ≤ (A.length : Int)) && decide ((A.length : Int) ≤ (its.length : Int)) && room (its.length + [(⟨⟨lo, hi⟩, tag⟩ : It)].length) 32) = true from by
        rw [decide_eq_true (by omega), decide_eq_true (by omega), Bool.true_and, Bool.true_and, xw (by rw [List.length_singleton]; omega)], qn, Int.toNat_natCast]
      rfl
end Go.Pn

set_option maxRecDepth 100000
namespace Go.Pn
open Go Go.Sl Go.Pu Go.Mo
theorem XQ (K : Nat) : ∀ (k : Nat) (s : List UInt8), s.length < k → s.length < 1099511627776 →
    ∃ r n, qO.l1 K 0 k s = .ok r ∧ s = r ++ List.replicate n 0 ∧ (∀ r' x, r = r' ++ [x] → x ≠ 0) := by
  intro k
  induction k with
  | zero => intro s h; omega
  | succ k ih =>
    intro s h hs
    rw [qO.l1]
    rcases List.eq_nil_or_concat s with rfl | ⟨p, x, rfl⟩
    · exact ⟨[], 0, rfl, rfl, fun r' x h => by simp at h⟩
    · rw [List.concat_eq_append] at *
      have hl : (p ++ [x]).length = p.length + 1 := by simp
      have e1 : qC (((p ++ [x]).length : Int) - 1) = (p.length : Int) := by rw [hl, qB (by omega) (by omega)]; omega
      have e2 : rd (p ++ [x]) (p.length : Int) = x := yx p x [] rfl
      have himp : ∀ b, imp true b true = true := fun b => by cases b <;> rfl
      rw [e1, zx (by omega), himp, qn, e2, decide_eq_true (by omega), Bool.true_and, je, xz (by omega) (by omega) (by omega), qn, qF, jt, List.take_left]
      by_cases hx : x = 0
      · subst hx
        rw [if_pos (show ((UInt8.toNat 0 : Nat) : Int) = 0 from rfl)]
        obtain ⟨r, n, h1, h2, h3⟩ := ih p (by omega) (by omega)
        exact ⟨r, n + 1, h1, by rw [h2, List.replicate_succ']; simp, h3⟩
      · rw [if_neg (by intro h; apply hx; exact UInt8.toNat_inj.1 (by simpa using h))]
        refine ⟨p ++ [x], 0, rfl, by simp, fun r' y h => ?_⟩
        have := List.append_inj' h rfl
        simp only [List.cons.injEq, and_true] at this
        rw [← this.2]; exact hx
theorem XP (K : Nat) : ∀ (k : Nat) (s : List UInt8), s.length < k → s.length < 1099511627776 →
    ∃ r n, qP.l1 K 0 k s = .ok r ∧ s = List.replicate n 0 ++ r := by
  intro k
  induction k with
  | zero => intro s h; omega
  | succ k ih =>
    intro s h hs
    rw [qP.l1]
    cases s with
    | nil => exact ⟨[], 0, rfl, rfl⟩
    | cons x p =>
      simp only [List.length_cons] at h hs
      have himp : ∀ b, imp true b true = true := fun b => by cases b <;> rfl
      have e2 : rd (x :: p) 0 = x := rfl
      have e3 : sub (x :: p) 1 ((x :: p).length : Int) = p := by
        have := uK (x :: p) 1
        rw [show ((1 : Nat) : Int) = 1 from rfl] at this
        rw [this]; rfl
      rw [u3 (by omega) (by simp only [List.length_cons]; omega), himp, qn, e2, decide_eq_true (by simp only [List.length_cons]; omega), Bool.true_and, je, xz (by omega) (by simp only [List.length_cons]; omega) (by omega), qn, qF, e3]
      by_cases hx : x = 0
      · subst hx
        rw [if_pos (show ((UInt8.toNat 0 : Nat) : Int) = 0 from rfl)]
        obtain ⟨r, n, h1, h2⟩ := ih p (by omega) (by omega)
        exact ⟨r, n + 1, h1, by rw [h2, List.replicate_succ]; simp⟩
      · rw [if_neg (by intro h; apply hx; exact UInt8.toNat_inj.1 (by simpa using h))]
        exact ⟨x :: p, 0, rfl, rfl⟩
def Qf (s : List UInt8) : Bool := s.all fun x => x == 0
theorem Zz (n : Nat) : Qf (List.replicate n 0) = true := by simp [Qf]
theorem Zi (K : Nat) (s : List UInt8) (hs : s.length < 1099511627776) (hK : s.length < K) : ∃ r, zF.m K s = .ok r ∧ (r == []) = Qf s := by
  unfold zF.m
  cases s with
  | nil => exact ⟨[], rfl, rfl⟩
  | cons x p =>
    obtain ⟨r, n, h1, h2, h3⟩ := XQ K K (x :: p) hK hs
    have hl : r.length ≤ (x :: p).length := by rw [h2]; simp
    obtain ⟨r2, m, h4, h5⟩ := XP K K r (by omega) (by omega)
    rw [show ((x :: p == ([] : List UInt8)) || false) = false from rfl, cond_false, show inb (0 : Int) ([0] : List UInt8).length = true from rfl, qn]
    unfold qO.m qP.m
    rw [h1, qJ.bind_ok, h4, qJ.bind_ok]
    refine ⟨r2, rfl, ?_⟩
    rw [Bool.eq_iff_iff, beq_iff_eq]
    constructor
    · rintro rfl
      rw [List.append_nil] at h5
      rw [h2, h5]; simp [Qf]
    · intro hz
      rw [h2] at hz
      unfold Qf at hz
      rw [List.all_append, Bool.and_eq_true] at hz
      have hr : r = [] := by
        rcases List.eq_nil_or_concat r with h | ⟨r', y, h⟩
        · exact h
        · exfalso
          rw [List.concat_eq_append] at h
          have hy := h3 r' y h
          have := hz.1
          rw [h] at this
          simp at this
          exact hy this.2
      rw [hr] at h5
      have := congrArg List.length h5
      simp at this
      exact List.length_eq_zero_iff.1 (by omega)
def uL (s : List UInt8) (S : List Sp) (row : List UInt8) : Except Int (Tb × List Sp) :=
  if zK row 8 4 % 4 ≠ 0 ∨ zK row 12 4 > 16777216 then .error 3 else
  if ¬ zK row 8 4 + zB (zK row 12 4) ≤ s.length then .error 2 else
  if Qf ((s.drop (zK row 8 4 + zK row 12 4)).take (zB (zK row 12 4) - zK row 12 4)) = false then .error 3 else
  if 0 < zK row 12 4 ∧ xX S (zK row 8 4 : Nat) ((zK row 8 4 + zB (zK row 12 4) : Nat) : Int) = true then .error 5 else
  if xN ((s.drop (zK row 8 4)).take (zK row 12 4)) ≠ zK row 4 4 then .error 4 else
  .ok (⟨row.take 4, (s.drop (zK row 8 4)).take (zK row 12 4)⟩, if 0 < zK row 12 4 then vj S (zK row 8 4 : Nat) ((zK row 8 4 + zB (zK row 12 4) : Nat) : Int) else S)
theorem ZJ {n : Nat} (h : n < 18446744073709551616) : jf .u64 (n : Int) 3 = ((n % 4 : Nat) : Int) := by
  have := QZ (a := n) (b := 3) h (by decide)
  rw [show ((3 : Nat) : Int) = 3 from rfl] at this
  rw [this, show n &&& 3 = n % 4 from Nat.and_two_pow_sub_one_eq_mod n 2]
theorem QH (K : Nat) (s row : List UInt8) (base : Int) (its : List It) (S : List Sp) (hS : its.map (·.span_) = S) (hO : ZA S) (hs : s.length ≤ 1000000) (hr : row.length = 16) (hb0 : 0 ≤ base) (hb1 : base < 140737488355328) (hl : its.length ≤ 100000) (hK : 2000000 < K) :
    match uL s S row with
    | .error e => e ≠ 0 ∧ ∃ its', qA.m K ⟨⟨s, 0⟩, ⟨its⟩⟩ ⟨row, base⟩ = .ok ([], [], e, its')
    | .ok (t, S') => ∃ its', its'.map (·.span_) = S' ∧ qA.m K ⟨⟨s, 0⟩, ⟨its⟩⟩ ⟨row, base⟩ = .ok (t.Tag_, t.Data_, 0, its') := by
  have hU := fun a ha => Zv K row base a 4 w4 (by omega) ha hb0 hb1 (by omega)
  rw [show ((4 : Nat) : Int) = 4 from rfl] at hU
  have u4 := hU 4 (by omega)
  have u8 := hU 8 (by omega)
  have u12 := hU 12 (by omega)
  unfold uO at u4 u8 u12
  rw [if_pos (by omega)] at u4 u8 u12
  have b4 := jw row 4 4
  have b8 := jw row 8 4
  have b12 := jw row 12 4
  unfold qA.m q9.m uL
  have e4 : sub row 0 4 = row.take 4 := jt row 4
  rw [qJ.bind_ok, xz (by omega) (by omega) (by dsimp only; omega), qn, qF]
  dsimp only
  rw [e4]
  rw [show ((4 : Nat) : Int) = 4 from rfl] at u4
  rw [show ((8 : Nat) : Int) = 8 from rfl] at u8
  rw [show ((12 : Nat) : Int) = 12 from rfl] at u12
  rw [u4, qJ.bind_ok]
  dsimp only
  rw [u8, qJ.bind_ok]
  dsimp only
  rw [u12, qJ.bind_ok]
  dsimp only
  generalize zK row 4 4 = sm at *
  generalize zK row 8 4 = a at *
  generalize zK row 12 4 = n at *
  have hup : n ≤ zB n ∧ zB n ≤ n + 3 := by unfold zB; omega
  rw [ZJ (by omega), j4, yf, qL]
  by_cases h1 : a % 4 ≠ 0 ∨ n > 16777216
  · rw [if_pos h1]
    refine ⟨by decide, its, ?_⟩
    rcases h1 with h | h
    · rw [if_neg (by omega)]
    · by_cases h2 : a % 4 = 0
      · rw [if_pos (by omega), if_pos (by omega)]
      · rw [if_neg (by omega)]
  · rw [if_neg h1, if_pos (show ((a % 4 : Nat) : Int) = 0 by omega), if_neg (show ¬ ((n : Int) > 16777216) by omega), xC (x := (n : Int)) (by omega) (by omega), xC (x := (a : Int)) (by omega) (by omega), yU K n (by omega), qJ.bind_ok,
      jl K s 0 a (zB n) (by omega) (by omega) (by omega) (by omega) (by omega)]
    by_cases h2 : a + zB n ≤ s.length
    · rw [if_pos h2, if_neg (fun h => h h2), qJ.bind_ok]
      dsimp only
      unfold qA.j1 q9.m xB.m
      have htl : ((s.drop a).take (zB n)).length = zB n := by rw [List.length_take, List.length_drop]; omega
      have hdata : sub ((s.drop a).take (zB n)) 0 (n : Int) = (s.drop a).take n := by rw [jt, List.take_take, Nat.min_eq_left hup.1]
      have hrest : sub ((s.drop a).take (zB n)) (n : Int) (((s.drop a).take (zB n)).length : Int) = (s.drop (a + n)).take (zB n - n) := by
        rw [uK, List.drop_take, List.drop_drop]
      obtain ⟨r, ht1, ht2⟩ := Zi K ((s.drop (a + n)).take (zB n - n)) (by rw [List.length_take]; omega) (by rw [List.length_take]; omega)
      have hdl : ((s.drop a).take n).length = n := by rw [List.length_take, List.length_drop]; omega
      rw [show ((0 : Int) != 0) = false from rfl, cond_false, qJ.bind_ok, xz (by omega) (by omega) (by rw [htl]; omega), qn, qF, qJ.bind_ok, xz (by omega) (by rw [htl]; omega) (by omega), qn, hdata, hrest, ht1, qJ.bind_ok, ht2]
      cases hz : Qf ((s.drop (a + n)).take (zB n - n)) with
      | false => rw [if_pos rfl]; exact ⟨by decide, its, rfl⟩
      | true =>
        rw [if_neg (by decide), Bool.not_true, cond_false, qL]
        have hsum : ∀ its2 : List It, qA.j2 K (row.take 4) (sm : Int) ((s.drop a).take n) its2 = if xN ((s.drop a).take n) ≠ sm then .ok ([], [], 4, its2) else .ok (row.take 4, (s.drop a).take n, 0, its2) := by
          intro its2
          unfold qA.j2
          rw [vO K _ (by omega) (by omega), qJ.bind_ok, z4 (by omega) (by omega), yf]
          by_cases hw : xN ((s.drop a).take n) = sm
          · rw [if_pos (by omega), if_neg (fun h => h hw)]
          · rw [if_neg (by omega), if_pos hw]
        by_cases hn : 0 < n
        · rw [if_pos (show (n : Int) > 0 by omega), qF, qJ.bind_ok]
          dsimp only
          rw [htl, xC (x := (a : Int)) (by omega) (by omega), qB (by omega) (by omega), show (a : Int) + ((zB n : Nat) : Int) = ((a + zB n : Nat) : Int) by omega]
          rcases Qs K its S hS hO (a : Int) ((a + zB n : Nat) : Int) (row.take 4) (by omega) (by omega) (by omega) hl (by omega) with ⟨hc, hadd⟩ | ⟨hc, its', hm, hadd⟩
          · rw [hadd, hc, if_pos ⟨hn, rfl⟩]
            exact ⟨by decide, its, rfl⟩
          · rw [hadd, hc, if_neg (show ¬ (0 < n ∧ false = true) from fun h => by cases h.2), qJ.bind_ok]
            dsimp only
            rw [show ((0 : Int) != 0) = false from rfl, cond_false, hsum]
            by_cases hw : xN ((s.drop a).take n) ≠ sm
            · rw [if_pos hw, if_pos hw]; exact ⟨by decide, its', rfl⟩
            · rw [if_neg hw, if_neg hw]; exact ⟨its', by rw [hm, if_pos hn], rfl⟩
        · rw [if_neg (show ¬ ((n : Int) > 0) by omega), if_neg (show ¬ (0 < n ∧ xX S (a : Int) ((a + zB n : Nat) : Int) = true) from fun h => hn h.1), hsum]
          by_cases hw : xN ((s.drop a).take n) ≠ sm
          · rw [if_pos hw, if_pos hw]; exact ⟨by decide, its, rfl⟩
          · rw [if_neg hw, if_neg hw]; exact ⟨its, by rw [hS, if_neg hn], rfl⟩
    · rw [if_neg h2, if_pos h2, qJ.bind_ok]
      exact ⟨by decide, its, rfl⟩
def yz (s : List UInt8) (i : Nat) : List UInt8 := (s.drop (12 + 16 * i)).take 16
def x9 (s : List UInt8) (kind : Nat) : Nat → Nat → List Sp → List Tb → Nat → List UInt8 → Int × List Tb × Int
  | 0, _, _, out, all, _ => if all ≥ 1073741824 then (0, [], 3) else ((kind : Int), out, 0)
  | j + 1, i, S, out, all, last =>
    if (jY ((yz s i).take 4) && Op.bytesLess last ((yz s i).take 4)) = false then (0, [], 3) else
    match uL s S (yz s i) with
    | .error e => (0, [], e)
    | .ok (t, S') => x9 s kind j (i + 1) S' (out ++ [t]) (all + zB t.Data_.length) t.Tag_
theorem Z3 {s row : List UInt8} {S S' : List Sp} {t : Tb} (hO : ZA S) (hs : s.length ≤ 1000000) (h : uL s S row = .ok (t, S')) : ZA S' ∧ S'.length ≤ S.length + 1 ∧ t.Data_.length ≤ 1000000 ∧ t.Tag_ = row.take 4 := by
  unfold uL at h
  split at h
  · cases h
  · split at h
    · cases h
    · split at h
      · cases h
      · split at h
        · cases h
        · split at h
          · cases h
          · rename_i h1 h2 h3 h4 h5
            simp only [Except.ok.injEq, Prod.mk.injEq] at h
            obtain ⟨rfl, rfl⟩ := h
            have hup : zK row 12 4 ≤ zB (zK row 12 4) := by unfold zB; omega
            refine ⟨?_, ?_, ?_, rfl⟩
            · split
              · rename_i hn
                refine hO.ins (by omega) (by omega) (by omega) ?_
                cases hc : xX S (zK row 8 4 : Nat) ((zK row 8 4 + zB (zK row 12 4) : Nat) : Int) with
                | false => rfl
                | true => exact absurd ⟨hn, hc⟩ h4
              · exact hO
            · split
              · rw [Q3]; omega
              · omega
            · show ((s.drop _).take _).length ≤ 1000000
              rw [List.length_take, List.length_drop]; omega
theorem uB (K : Nat) (s : List UInt8) (kind n : Nat) (hk : kind < 4294967296) (hs : s.length ≤ 1000000) (hn : n ≤ 1000) (hsn : 12 + 16 * n ≤ s.length) (hK : 2000000 < K) : ∀ (j k i : Nat) (S : List Sp) (its : List It) (out : List Tb) (all : Nat) (last : List UInt8), i + j = n → j < k → its.map (·.span_) = S → ZA S →
    S.length ≤ i + 1 → out.length = i → all ≤ 1000003 * i →
    qV.l2 K s (kind : Int) (n : Int) ((s.drop 12).take (16 * n)) 12 k its out (all : Int) last (i : Int) = .ok (x9 s kind j i S out all last) := by
  intro j
  induction j with
  | zero =>
    intro k i S its out all last h1 h2 hS hO hSl ho ha
    obtain ⟨k, rfl⟩ : ∃ m, k = m + 1 := ⟨k - 1, by omega⟩
    rw [qV.l2, qL, if_neg (by omega), x9]
    unfold qV.j3
    rw [qL, z4 (by omega) (by omega), qF]
    by_cases hb : all ≥ 1073741824
    · rw [if_pos (by omega), if_pos hb]
    · rw [if_neg (by omega), if_neg hb]
  | succ j ih =>
    intro k i S its out all last h1 h2 hS hO hSl ho ha
    obtain ⟨k, rfl⟩ : ∃ m, k = m + 1 := ⟨k - 1, by omega⟩
    have e16 : qC ((16 : Int) * (i : Int)) = ((16 * i : Nat) : Int) := by rw [qB (by omega) (by omega)]; omega
    have hrl : (yz s i).length = 16 := by unfold yz; rw [List.length_take, List.length_drop]; omega
    have hsub := jl K ((s.drop 12).take (16 * n)) 12 (16 * i) 16 (by rw [List.length_take]; omega) (by omega) (by omega) (by omega) (by omega)
    rw [show ((16 : Nat) : Int) = 16 from rfl, if_pos (by rw [List.length_take, List.length_drop]; omega)] at hsub
    have hrow : (((s.drop 12).take (16 * n)).drop (16 * i)).take 16 = yz s i := by
      unfold yz
      rw [List.drop_take, List.drop_drop, List.take_take, Nat.min_eq_left (by omega)]
    rw [hrow] at hsub
    have hitl : its.length ≤ 100000 := by have := congrArg List.length hS; rw [List.length_map] at this; omega
    have e4 : sub (yz s i) 0 4 = (yz s i).take 4 := jt _ 4
    have htl : ((yz s i).take 4).length = 4 := by rw [List.length_take]; omega
    rw [qV.l2, qL, if_pos (by omega), e16, hsub, qJ.bind_ok, x9]
    dsimp only
    unfold q9.m
    rw [qJ.bind_ok, xz (by omega) (by omega) (by omega), qn, qF, e4, Qu K _ (by omega) (by omega), qJ.bind_ok, QS, ← Bool.not_and, yg]
    cases hgood : (jY ((yz s i).take 4) && Op.bytesLess last ((yz s i).take 4)) with
    | false => rw [cond_false, if_pos rfl]
    | true =>
      rw [cond_true, if_neg (by decide)]
      have ht := QH K s (yz s i) (12 + ((16 * i : Nat) : Int)) its S hS hO hs hrl (by omega) (by omega) hitl hK
      cases htab : uL s S (yz s i) with
      | error e =>
        rw [htab] at ht
        obtain ⟨he, its', hm⟩ := ht
        rw [hm, qJ.bind_ok]
        dsimp only
        rw [yf, if_neg he]
      | ok p =>
        obtain ⟨t, S'⟩ := p
        rw [htab] at ht
        obtain ⟨its', hS', hm⟩ := ht
        obtain ⟨hO', hl', hd, htag⟩ := Z3 hO hs htab
        have hup : zB t.Data_.length ≤ t.Data_.length + 3 := by unfold zB; omega
        have e3 : qC ((i : Int) + 1) = ((i + 1 : Nat) : Int) := by rw [qB (by omega) (by omega)]; omega
        rw [hm, qJ.bind_ok]
        dsimp only
        rw [show ((0 : Int) != 0) = false from rfl, cond_false, yU K _ (by omega), qJ.bind_ok, qB (by omega) (by omega), qF, xw (by rw [List.length_singleton]; omega), qn, qF, e3, show (all : Int) + ((zB t.Data_.length : Nat) : Int) = ((all + zB t.Data_.length : Nat) : Int) by omega]
        exact ih k (i + 1) S' its' (out ++ [t]) _ _ (by omega) (by omega) hS' hO' (by omega) (by rw [List.length_append, List.length_singleton]; omega) (by omega)
theorem QR {t : List UInt8} (h : t ≠ []) : Op.bytesLess [] t = true := by
  cases t with
  | nil => exact absurd rfl h
  | cons _ _ => rfl
def uD (s : List UInt8) : Int × List Tb × Int :=
  if s.length < 12 then (0, [], 2) else
  if ¬ ((zK s 0 4 = 65536 ∨ zK s 0 4 = 1330926671) ∧ 1 ≤ zK s 4 2 ∧ zK s 4 2 ≤ 1000 ∧ s.take 12 = zQ (zK s 0 4) (zK s 4 2)) then (0, [], 3) else
  if s.length < 12 + 16 * zK s 4 2 then (0, [], 2) else
  x9 s (zK s 0 4) (zK s 4 2) 0 [⟨0, ((12 + 16 * zK s 4 2 : Nat) : Int)⟩] [] 0 []
theorem ZS (n : Nat) (hn : n ≤ 1000) : ZA [⟨0, ((12 + 16 * n : Nat) : Int)⟩] :=
  ⟨fun x hx => by rw [List.mem_singleton] at hx; subst hx; dsimp only; omega, List.pairwise_singleton ..⟩
theorem Zh (K : Nat) (s : List UInt8) (hs : s.length ≤ 1000000) (hK : 2000000 < K) : qV.m K s = .ok (uD s) := by
  have h0 := jl K s 0 0 12 (by omega) (by omega) (by omega) (by omega) (by omega)
  rw [show ((0 : Nat) : Int) = 0 from rfl, show ((12 : Nat) : Int) = 12 from rfl] at h0
  unfold qV.m v5.m zI.m uD
  rw [qJ.bind_ok, qJ.bind_ok, h0]
  by_cases h1 : s.length < 12
  · rw [if_neg (by omega), if_pos h1]; rfl
  · rw [if_pos (by omega), if_neg h1, qJ.bind_ok]
    dsimp only
    rw [List.drop_zero]
    have htl : (s.take 12).length = 12 := by rw [List.length_take]; omega
    have u0 := Zv K (s.take 12) (0 + 0) 0 4 w4 (by omega) (by omega) (by omega) (by omega) (by omega)
    have u4 := Zv K (s.take 12) (0 + 0) 4 2 w2 (by omega) (by omega) (by omega) (by omega) (by omega)
    unfold uO at u0 u4
    rw [if_pos (by omega)] at u0 u4
    have b0 : zK (s.take 12) 0 4 = zK s 0 4 := by have := j0 s 0 12 0 4 (by omega); rw [List.drop_zero] at this; exact this
    have b4 : zK (s.take 12) 4 2 = zK s 4 2 := by have := j0 s 0 12 4 2 (by omega); rw [List.drop_zero] at this; exact this
    rw [b0] at u0
    rw [b4] at u4
    have l0 := jw s 0 4
    have l4 := jw s 4 2
    rw [show ((0 : Nat) : Int) = 0 from rfl, show ((4 : Nat) : Int) = 4 from rfl] at u0
    rw [show ((2 : Nat) : Int) = 2 from rfl, show ((4 : Nat) : Int) = 4 from rfl] at u4
    rw [show ((0 : Int) != 0) = false from rfl, cond_false, u0, qJ.bind_ok]
    dsimp only
    rw [u4, qJ.bind_ok]
    dsimp only
    unfold xo.m
    rw [qF, z4 (by omega) (by omega), Q6, qF, qJ.bind_ok, xC (by omega) (by omega)]
    generalize zK s 0 4 = kind at *
    generalize zK s 4 2 = n at *
    have stop : qV.j1 K s (kind : Int) (n : Int) true = .ok (0, [], 3) := rfl
    by_cases hg : (kind = 65536 ∨ kind = 1330926671) ∧ 1 ≤ n ∧ n ≤ 1000
    · rw [decide_eq_true hg.1, show (((!true) || decide ((n : Int) < 1)) || decide ((n : Int) > 1000)) = false from by
        rw [Bool.or_eq_false_iff, Bool.or_eq_false_iff]; exact ⟨⟨rfl, decide_eq_false (by omega)⟩, decide_eq_false (by omega)⟩, cond_false]
      unfold q9.m
      rw [qJ.bind_ok, uA K kind n l0 hg.2.1 hg.2.2 (by omega), qJ.bind_ok]
      by_cases hh : s.take 12 = zQ kind n
      · rw [if_neg (fun h => h ⟨hg.1, hg.2.1, hg.2.2, hh⟩), hh, beq_self_eq_true, Bool.not_true]
        unfold qV.j1
        have hsub := jl K s 0 12 (16 * n) (by omega) (by omega) (by omega) (by omega) (by omega)
        rw [show ((12 : Nat) : Int) = 12 from rfl] at hsub
        have e16 : qC ((16 : Int) * (n : Int)) = ((16 * n : Nat) : Int) := by rw [qB (by omega) (by omega)]; omega
        have e12 : qC ((12 : Int) + qC ((16 : Int) * (n : Int))) = ((12 + 16 * n : Nat) : Int) := by rw [qB (x := 16 * _) (by omega) (by omega), qB (by omega) (by omega)]; omega
        rw [cond_false, e12, e16, hsub]
        by_cases h2 : s.length < 12 + 16 * n
        · rw [if_neg (by omega), if_pos h2]; rfl
        · rw [if_pos (by omega), if_neg h2, qJ.bind_ok]
          dsimp only
          rw [show ((0 : Int) != 0) = false from rfl, cond_false]
          rcases Qs K [] [] rfl ⟨by simp, List.Pairwise.nil⟩ 0 ((12 + 16 * n : Nat) : Int) [] (by omega) (by omega) (by omega) (by simp) (by simp; omega) with ⟨hc, _⟩ | ⟨_, its', hm, hadd⟩
          · cases hc
          · rw [hadd, qJ.bind_ok]
            dsimp only
            exact uB K s kind n l0 hs hg.2.2 (by omega) hK n K 0 _ its' [] 0 [] (by omega) (by omega) hm (ZS n hg.2.2) (by simp [vj]) rfl (by omega)
      · rw [if_pos (fun h => hh h.2.2.2), show (s.take 12 == zQ kind n) = false from by simpa using hh]; rfl
    · rw [if_pos (fun h => hg ⟨h.1, h.2.1, h.2.2.1⟩)]
      have d : (((!decide (kind = 65536 ∨ kind = 1330926671)) || decide ((n : Int) < 1)) || decide ((n : Int) > 1000)) = true := by
        by_cases hk : kind = 65536 ∨ kind = 1330926671
        · by_cases hn : 1 ≤ n
          · rw [decide_eq_true (show (n : Int) > 1000 by have : ¬ n ≤ 1000 := fun h => hg ⟨hk, hn, h⟩; omega), Bool.or_true]
          · rw [decide_eq_true (show (n : Int) < 1 by omega)]; simp
        · rw [decide_eq_false hk]; rfl
      rw [d, cond_true, stop]
end Go.Pn

set_option maxRecDepth 100000
namespace Go.Pn
open Go Go.Sl Go.Pu Go.Mo
theorem Q9 (m : Nat) : qX.m (m + 300) = .ok true := by kernel_rfl
theorem Q8 (K : Nat) (hK : 300 ≤ K) : qX.m K = .ok true := by
  obtain ⟨m, rfl⟩ : ∃ m, K = m + 300 := ⟨K - 300, by omega⟩
  exact Q9 m
structure XU (K : Nat) (l : List Tb) : Prop where
  len : l.length ≤ 1001
  tag : ∀ t ∈ l, t.Tag_.length ≤ 9223372036854775807 ∧ t.Tag_.length < K
  dat : ∀ t ∈ l, t.Data_.length ≤ 5000
  sz : yd l ≤ 108003
theorem Yn {K : Nat} {l : List Tb} (hK : 9223372036854775807 < K) (hb : ∀ t ∈ l, t.Tag_.length ≤ 9223372036854775807) (h : l.length ≤ 1001 ∧ uN l ≤ 105000 ∧ yd l ≤ 108003 ∧ ∀ t ∈ l, t.Data_.length ≤ 5000) : XU K l :=
  ⟨h.1, fun t ht => ⟨hb t ht, by have := hb t ht; omega⟩, h.2.2.2, h.2.2.1⟩
theorem XU.prog {K : Nat} {l : List Tb} (h : XU K l) (kind : Nat) (hk : kind < 4294967296) (hK : 2000000 < K) : qS.m K (kind : Int) l = .ok (Qe kind l) :=
  QI K kind l hk (by have := h.len; omega) h.tag (by have := h.sz; omega) (fun t ht => by have := h.dat t ht; omega) (by omega)
theorem Xs {a : Int} (h : (Lit.int .u32 a).wf = true) : ∃ n : Nat, a = (n : Int) ∧ n < 4294967296 := by
  have h2 : (0 : Int) ≤ a ∧ a < 4294967296 := by
    simp [Lit.wf, IntKind.min, IntKind.max, IntKind.signed, IntKind.bits] at h
    omega
  exact ⟨a.toNat, by omega, by omega⟩
end Go.Pn

set_option maxRecDepth 100000
namespace Go.Pn
open Go Go.Sl Go.Pu Go.Mo
theorem yR {α : Type} (a b : List α) {n : Nat} (h : n = a.length) : (a ++ b).take n = a := by subst h; exact List.take_left
theorem vg {α : Type} (a b : List α) {n : Nat} (h : n = a.length) : (a ++ b).drop n = b := by subst h; exact List.drop_left
structure Good (s : List UInt8) (n i a : Nat) (t : Tb) : Prop where
  row : yz s i = jX a t
  four : a % 4 = 0
  lo : 12 + 16 * n ≤ a
  hi : a + zB t.Data_.length ≤ s.length
  pad : (s.drop a).take (zB t.Data_.length) = vA t
  tag : jY t.Tag_ = true
  dat : t.Data_.length ≤ 16777216
theorem vu {a : Nat} {t : Tb} (h4 : t.Tag_.length = 4) (ha : a < 4294967296) (hd : t.Data_.length < 4294967296) :
    (jX a t).take 4 = t.Tag_ ∧ zK (jX a t) 4 4 = xN t.Data_ ∧ zK (jX a t) 8 4 = a ∧ zK (jX a t) 12 4 = t.Data_.length := by
  have hw := vx t.Data_
  have lw : ∀ A, (xe 4 A).length = 4 := zE 4
  unfold jX
  refine ⟨?_, ?_, ?_, ?_⟩
  · rw [List.append_assoc, List.append_assoc]; exact yR _ _ h4.symm
  · have := vR t.Tag_ (xN t.Data_) (xe 4 a ++ xe 4 t.Data_.length) 4
    rw [h4, Nat.mod_eq_of_lt (by omega)] at this
    rw [List.append_assoc, List.append_assoc]; exact this
  · have := vR (t.Tag_ ++ xe 4 (xN t.Data_)) a (xe 4 t.Data_.length) 4
    rw [List.length_append, h4, lw, Nat.mod_eq_of_lt (by omega)] at this
    rw [List.append_assoc]; exact this
  · have := vR ((t.Tag_ ++ xe 4 (xN t.Data_)) ++ xe 4 a) t.Data_.length [] 4
    rw [List.append_nil, List.length_append, List.length_append, h4, lw, lw, Nat.mod_eq_of_lt (by omega)] at this
    exact this
theorem QL {s : List UInt8} {n i a : Nat} {t : Tb} {S : List Sp} (g : Good s n i a t) (hs : s.length ≤ 1000000) (hc : 0 < t.Data_.length → xX S (a : Nat) ((a + zB t.Data_.length : Nat) : Int) = false) :
    uL s S (yz s i) = .ok (t, if 0 < t.Data_.length then vj S (a : Nat) ((a + zB t.Data_.length : Nat) : Int) else S) := by
  have hup : t.Data_.length ≤ zB t.Data_.length := by unfold zB; omega
  have h4 := yl g.tag
  have hhi := g.hi
  obtain ⟨p1, p2, p3, p4⟩ := vu (a := a) h4 (by omega) (by have := g.dat; omega)
  have hdat : (s.drop a).take t.Data_.length = t.Data_ := by
    have := congrArg (List.take t.Data_.length) g.pad
    rw [List.take_take, Nat.min_eq_left hup] at this
    rw [this]; unfold vA; exact yR _ _ rfl
  have hz : (s.drop (a + t.Data_.length)).take (zB t.Data_.length - t.Data_.length) = List.replicate (zB t.Data_.length - t.Data_.length) 0 := by
    have := congrArg (List.drop t.Data_.length) g.pad
    rw [List.drop_take, List.drop_drop] at this
    rw [this]; unfold vA; exact vg _ _ rfl
  rw [g.row]
  unfold uL
  rw [p1, p2, p3, p4, if_neg (by have := g.four; have := g.dat; omega), if_neg (fun h => h hhi), hz, Zz, if_neg (by decide), if_neg (fun h => by rw [hc h.1] at h; cases h.2), hdat, if_neg (fun h => h rfl)]
def jQ (D : List Tb) : List UInt8 := (yM D).getD []
theorem QE (D : List Tb) (t : Tb) : jQ (D ++ [t]) = t.Tag_ := by unfold jQ; rw [yi]; rfl
theorem v3 : ∀ a b : List Tb, yd (a ++ b) = yd a + yd b
  | [], b => by simp [yd]
  | t :: a, b => by rw [List.cons_append, yd, yd, v3 a b, Nat.add_assoc]
theorem Qq : ∀ (p : Option (List UInt8)) (D : List Tb) (t : Tb) (T : List Tb), j9 p (D ++ t :: T) = true → Xy (if D = [] then p else yM D) t = true
  | p, [], t, T, h => by
    rw [List.nil_append, j9, Bool.and_eq_true] at h
    rw [if_pos rfl]; exact h.1
  | p, d :: D, t, T, h => by
    rw [List.cons_append, j9, Bool.and_eq_true] at h
    have := Qq (some d.Tag_) D t T h.2
    rw [if_neg (by simp)]
    cases D with
    | nil => simpa [yM] using this
    | cons e D => rw [if_neg (by simp)] at this; simpa [yM] using this
theorem Zc {D : List Tb} {t : Tb} {T l : List Tb} (hl : D ++ t :: T = l) (h : j9 none l = true) : jY t.Tag_ = true ∧ Op.bytesLess (jQ D) t.Tag_ = true := by
  subst hl
  have := Qq none D t T h
  unfold Xy at this
  rw [Bool.and_eq_true] at this
  refine ⟨this.1, ?_⟩
  have h4 := yl this.1
  by_cases hD : D = []
  · subst hD
    exact QR (fun h => by rw [h] at h4; cases h4)
  · rw [if_neg hD] at this
    unfold jQ
    cases hp : yM D with
    | none =>
      exact QR (fun h => by rw [h] at h4; cases h4)
    | some q =>
      rw [hp] at this
      simp only [Bool.and_eq_true] at this
      exact this.2.1
def XT (n : Nat) (l : List Tb) (pl : Nat → Nat) (b : Nat) (S : List Sp) : Prop :=
  ∀ x ∈ S, x = ⟨0, ((12 + 16 * n : Nat) : Int)⟩ ∨ ∃ i t, i < b ∧ l[i]? = some t ∧ x = ⟨(pl i : Nat), ((pl i + zB t.Data_.length : Nat) : Int)⟩
structure QN (s : List UInt8) (l : List Tb) (pl : Nat → Nat) (b : Nat) : Prop where
  good : ∀ i t, i < b → l[i]? = some t → Good s l.length i (pl i) t
  apart : ∀ i j t u, i < j → j < l.length → l[i]? = some t → l[j]? = some u → pl i + zB t.Data_.length ≤ pl j ∨ pl j + zB u.Data_.length ≤ pl i
  ok : j9 none l = true
theorem ZQ {s : List UInt8} {l : List Tb} {pl : Nat → Nat} {b i : Nat} {S : List Sp} {t : Tb} (hA : ∀ i j t u, i < j → j < l.length → l[i]? = some t → l[j]? = some u → pl i + zB t.Data_.length ≤ pl j ∨ pl j + zB u.Data_.length ≤ pl i)
    (ht : l[i]? = some t) (hlo : 12 + 16 * l.length ≤ pl i) (hI : XT l.length l pl i S) : xX S (pl i : Nat) ((pl i + zB t.Data_.length : Nat) : Int) = false := by
  rw [← Bool.not_eq_true]
  intro h
  obtain ⟨x, hx, h⟩ := List.any_eq_true.1 h
  simp only [Bool.and_eq_true, decide_eq_true_eq] at h
  rcases hI x hx with rfl | ⟨j, u, hj, hu, rfl⟩
  · dsimp only at h; omega
  · dsimp only at h
    have hil : i < l.length := (List.getElem?_eq_some_iff.1 ht).1
    have := hA j i u t hj hil hu ht
    omega
theorem XL {s : List UInt8} {l : List Tb} {pl : Nat → Nat} {b kind m : Nat} (hA : QN s l pl b) (hs : s.length ≤ 1000000) : ∀ (T D R : List Tb) (S : List Sp), D ++ (T ++ R) = l → D.length + T.length ≤ b → XT l.length l pl D.length S →
    ∃ S', XT l.length l pl (D ++ T).length S' ∧ x9 s kind (T.length + m) D.length S D (yd D) (jQ D) = x9 s kind m (D ++ T).length S' (D ++ T) (yd (D ++ T)) (jQ (D ++ T)) := by
  intro T
  induction T with
  | nil =>
    intro D R S _ _ hI
    exact ⟨S, by simpa using hI, by simp⟩
  | cons t T ih =>
    intro D R S hl hb hI
    simp only [List.length_cons] at hb
    have ht : l[D.length]? = some t := by rw [← hl]; simp
    have g := hA.good D.length t (by omega) ht
    have hok := Zc (D := D) (t := t) (T := T ++ R) (by rw [← hl]; simp) hA.ok
    have h4 := yl hok.1
    have htab := QL (S := S) g hs (fun _ => ZQ (s := s) (b := b) hA.apart ht g.lo hI)
    have hrt : (yz s D.length).take 4 = t.Tag_ := by rw [g.row]; exact (vu h4 (by have := g.hi; omega) (by have := g.dat; omega)).1
    have hI2 : XT l.length l pl (D ++ [t]).length (if 0 < t.Data_.length then vj S (pl D.length : Nat) ((pl D.length + zB t.Data_.length : Nat) : Int) else S) := by
      intro x hx
      have old : x ∈ S → x = ⟨0, ((12 + 16 * l.length : Nat) : Int)⟩ ∨ ∃ i t, i < (D ++ [t]).length ∧ l[i]? = some t ∧ x = ⟨(pl i : Nat), ((pl i + zB t.Data_.length : Nat) : Int)⟩ := by
        intro hx
        rcases hI x hx with h | ⟨i, u, h1, h2, h3⟩
        · exact .inl h
        · exact .inr ⟨i, u, by rw [List.length_append, List.length_singleton]; omega, h2, h3⟩
      have old' : x ∈ S → x = ⟨0, ((12 + 16 * l.length : Nat) : Int)⟩ ∨ ∃ i u, i < (D ++ [t]).length ∧ l[i]? = some u ∧ x = ⟨(pl i : Nat), ((pl i + zB u.Data_.length : Nat) : Int)⟩ := by
        intro hx
        rcases hI x hx with h | ⟨i, u, h1, h2, h3⟩
        · exact .inl h
        · exact .inr ⟨i, u, by rw [List.length_append, List.length_singleton]; omega, h2, h3⟩
      split at hx
      · rcases ur.1 hx with rfl | hx
        · exact .inr ⟨D.length, t, by rw [List.length_append, List.length_singleton]; omega, ht, rfl⟩
        · exact old' hx
      · exact old' hx
    obtain ⟨S', h1, h2⟩ := ih (D ++ [t]) R _ (by rw [← hl]; simp) (by rw [List.length_append, List.length_singleton]; omega) hI2
    refine ⟨S', by simpa using h1, ?_⟩
    rw [List.length_cons, show T.length + 1 + m = (T.length + m) + 1 by omega, x9, hrt, hok.1, hok.2, if_neg (by decide), htab]
    dsimp only
    rw [show D.length + 1 = (D ++ [t]).length by simp, show yd D + zB t.Data_.length = yd (D ++ [t]) by rw [v3, yd, yd, Nat.add_zero], show t.Tag_ = jQ (D ++ [t]) from (QE D t).symm, h2]
    simp
theorem ul (kind n : Nat) (hk : kind < 4294967296) (hn : n ≤ 1000) (r : List UInt8) : zK (zQ kind n ++ r) 0 4 = kind ∧ zK (zQ kind n ++ r) 4 2 = n ∧ (zQ kind n ++ r).take 12 = zQ kind n := by
  have l4 : (xe 4 kind).length = 4 := zE 4 kind
  refine ⟨?_, ?_, yR _ _ (zS kind n).symm⟩
  · have := vS kind (((xe 2 n ++ xe 2 (16 * 2 ^ n.log2)) ++ xe 2 n.log2) ++ xe 2 (16 * (n - 2 ^ n.log2)) ++ r) 4
    rw [Nat.mod_eq_of_lt (by omega)] at this
    unfold zQ
    simp only [List.append_assoc] at this ⊢
    exact this
  · have := vR (xe 4 kind) n ((xe 2 (16 * 2 ^ n.log2) ++ xe 2 n.log2) ++ xe 2 (16 * (n - 2 ^ n.log2)) ++ r) 2
    rw [l4, Nat.mod_eq_of_lt (by omega)] at this
    unfold zQ
    simp only [List.append_assoc] at this ⊢
    exact this
theorem QJ {kind : Nat} {l : List Tb} {r : List UInt8} {pl : Nat → Nat} (hk : kind = 65536 ∨ kind = 1330926671) (hl : 1 ≤ l.length ∧ l.length ≤ 1000) (hs : (zQ kind l.length ++ r).length ≤ 1000000) (hr : 16 * l.length ≤ r.length) (hz : yd l < 1073741824)
    (hA : QN (zQ kind l.length ++ r) l pl l.length) : uD (zQ kind l.length ++ r) = ((kind : Int), l, 0) := by
  obtain ⟨p1, p2, p3⟩ := ul kind l.length (by omega) hl.2 r
  have hlen : (zQ kind l.length ++ r).length = 12 + r.length := by rw [List.length_append, zS]
  unfold uD
  rw [p1, p2, p3, if_neg (by omega), if_neg (fun h => h ⟨hk, hl.1, hl.2, rfl⟩), if_neg (by omega)]
  obtain ⟨S', _, h⟩ := XL (kind := kind) (m := 0) hA hs l [] [] [⟨0, ((12 + 16 * l.length : Nat) : Int)⟩] (by simp) (by simp) (fun x hx => .inl (List.mem_singleton.1 hx))
  rw [Nat.add_zero, List.nil_append] at h
  refine (show _ = x9 (zQ kind l.length ++ r) kind l.length ([] : List Tb).length [⟨0, ((12 + 16 * l.length : Nat) : Int)⟩] [] (yd []) (jQ []) from rfl).trans ?_
  rw [h, x9, if_neg (by omega)]
theorem Zu {l : List Tb} {i : Nat} {t : Tb} (h : l[i]? = some t) : l = l.take i ++ t :: l.drop (i + 1) ∧ (l.take i).length = i := by
  obtain ⟨h1, h2⟩ := List.getElem?_eq_some_iff.1 h
  refine ⟨?_, by rw [List.length_take]; omega⟩
  conv => lhs; rw [← List.take_append_drop i l]
  rw [List.drop_eq_getElem_cons h1, h2]
end Go.Pn

set_option maxRecDepth 100000
namespace Go.Pn
open Go Go.Sl Go.Pu Go.Mo
def X8 : List Tb → Nat
  | [] => 0
  | t :: r => xN t.Data_ + X8 r
end Go.Pn

set_option maxRecDepth 100000
namespace Go.Pn
open Go Go.Sl Go.Pu Go.Mo
def zl (gap : Nat) : List Tb → List UInt8
  | [] => []
  | t :: T => zl gap T ++ (List.replicate (4 * gap) 0 ++ vA t)
def xR (base gap : Nat) : List Tb → List UInt8
  | [] => []
  | t :: T => jX (base + (zl gap T).length + 4 * gap) t ++ xR base gap T
theorem jz (gap : Nat) : ∀ l : List Tb, (zl gap l).length % 4 = 0
  | [] => rfl
  | t :: T => by
    have := jz gap T
    rw [zl, List.length_append, List.length_append, List.length_replicate, yh]; unfold zB; omega
theorem jy (gap : Nat) : ∀ l : List Tb, (zl gap l).length = yd l + 4 * gap * l.length
  | [] => rfl
  | t :: T => by
    rw [zl, List.length_append, List.length_append, List.length_replicate, yh, jy gap T, yd, List.length_cons, Nat.mul_add]; omega
theorem jx (gap : Nat) (T : List Tb) : ∀ D : List Tb, ∃ Q, zl gap (D ++ T) = zl gap T ++ Q
  | [] => ⟨[], by simp⟩
  | d :: D => by
    obtain ⟨Q, h⟩ := jx gap T D
    exact ⟨Q ++ (List.replicate (4 * gap) 0 ++ vA d), by rw [List.cons_append, zl, h, List.append_assoc]⟩
theorem jH (base gap : Nat) (T : List Tb) : ∀ D : List Tb, (∀ t ∈ D, t.Tag_.length = 4) → ∃ P, xR base gap (D ++ T) = P ++ xR base gap T ∧ P.length = 16 * D.length
  | [], _ => ⟨[], by simp, rfl⟩
  | d :: D, h => by
    obtain ⟨P, h1, h2⟩ := jH base gap T D fun t ht => h t (by simp [ht])
    refine ⟨jX (base + (zl gap (D ++ T)).length + 4 * gap) d ++ P, by rw [List.cons_append, xR, h1, List.append_assoc], ?_⟩
    rw [List.length_append, vt (h d (by simp)), h2, List.length_cons]; omega
theorem jI (base gap : Nat) (l : List Tb) (h : ∀ t ∈ l, t.Tag_.length = 4) : (xR base gap l).length = 16 * l.length := by
  obtain ⟨P, h1, h2⟩ := jH base gap [] l h
  rw [List.append_nil] at h1
  rw [h1]; simp [xR, h2]
theorem v6 (K n : Nat) (h : n < 4294967296) : zh.m K (n : Int) = .ok (xe 4 n) := by
  unfold zh.m
  have s24 : zR .u32 (n : Int) 24 = ((n / 256 ^ 3 : Nat) : Int) := xZ (n := 24) (by decide)
  have s16 : zR .u32 (n : Int) 16 = ((n / 256 ^ 2 : Nat) : Int) := xZ (n := 16) (by decide)
  have s8 : zR .u32 (n : Int) 8 = ((n / 256 ^ 1 : Nat) : Int) := xZ (n := 8) (by decide)
  rw [s24, s16, s8, yo, yo, yo, yo, qF]
  simp only [List.map_cons, List.map_nil, Z5, xe, Nat.pow_zero, Nat.div_one]
theorem Zd (K : Nat) (g : List UInt8 → List Int → Int → qJ Bool) (l : List Tb) (rows : List UInt8) (i a : Int) : ∀ (k : Nat) (b : List Int), zB b.length - b.length < k → zB b.length < 1099511627776 →
    qb.l4 K g l rows i a k b = qb.j5 K g l rows i a (b ++ List.replicate (zB b.length - b.length) 0) := by
  intro k
  induction k with
  | zero => intro b h; omega
  | succ k ih =>
    intro b h hb
    have e2 : jE (b.length : Int) 4 = ((b.length % 4 : Nat) : Int) := vk (b := 4)
    rw [qb.l4, e2, yf]
    by_cases hm : b.length % 4 = 0
    · have : zB b.length = b.length := by unfold zB; omega
      rw [if_pos (by omega), this, Nat.sub_self]; simp
    · have hu : zB (b.length + 1) = zB b.length := by unfold zB; omega
      have hu2 : b.length < zB b.length := by unfold zB; omega
      rw [if_neg (by omega), xw (by rw [List.length_singleton]; omega), qn, qF, ih _ (by rw [List.length_append, List.length_singleton, hu]; omega) (by rw [List.length_append, List.length_singleton, hu]; omega)]
      rw [List.length_append, List.length_singleton, hu, show zB b.length - b.length = (zB b.length - (b.length + 1)) + 1 by omega, List.replicate_succ, List.append_assoc]; rfl
theorem QP (K kind gap : Nat) (l : List Tb) (hg : gap ≤ 100) (hl : l.length ≤ 40) (htag : ∀ t ∈ l, t.Tag_.length = 4) (hd : ∀ t ∈ l, t.Data_.length ≤ 5000) (hz : yd l ≤ 108003) (hK : 100000 < K) :
    ∀ (k : Nat) (D T : List Tb), D ++ T = l → D.length < k →
    qb.l3 K (kind : Int) l (gap : Int) k (xR (12 + 16 * l.length) gap T) ((zl gap T).map xW) ((D.length : Int) - 1) =
      qb.j6 K (kind : Int) l (xR (12 + 16 * l.length) gap l) ((zl gap l).map xW) := by
  intro k
  induction k with
  | zero => intro D T _ h; omega
  | succ k ih =>
    intro D T h1 hk
    rw [qb.l3, qL]
    rcases List.eq_nil_or_concat D with rfl | ⟨D', t, rfl⟩
    · rw [if_neg (by simp), show T = l from h1]
    · rw [List.concat_eq_append] at *
      have hDl : (D' ++ [t]).length = D'.length + 1 := by simp
      have hlen : D'.length + 1 + T.length = l.length := by rw [← h1]; simp; omega
      have ei : ((D' ++ [t]).length : Int) - 1 = (D'.length : Int) := by rw [hDl]; omega
      have e1 : rd l (D'.length : Int) = t := by rw [← h1, List.append_assoc]; exact yx D' t T rfl
      have hm : t ∈ l := by rw [← h1]; simp
      have ht4 := htag t hm
      have htd := hd t hm
      have hsz : yd T ≤ 108003 := by
        have : yd l = yd (D' ++ [t]) + yd T := by rw [← v3, h1]
        omega
      have hbl := jy gap T
      have hgl : 4 * gap * T.length ≤ 400 * 40 := Nat.mul_le_mul (by omega) (by omega)
      have hbm := jz gap T
      have hw := vx t.Data_
      have eg : qC ((4 : Int) * (gap : Int)) = ((4 * gap : Nat) : Int) := by rw [qB (by omega) (by omega)]; omega
      have e12 : qC ((12 : Int) + qC ((16 : Int) * (l.length : Int))) = ((12 + 16 * l.length : Nat) : Int) := by rw [qB (x := 16 * _) (by omega) (by omega), qB (by omega) (by omega)]; omega
      have hzs : (zl gap T).map xW ++ List.replicate (4 * gap) (0 : Int) = (zl gap T ++ List.replicate (4 * gap) 0).map xW := by
        rw [List.map_append, List.map_replicate]; rfl
      have eat : qC (((12 + 16 * l.length : Nat) : Int) + ((((zl gap T ++ List.replicate (4 * gap) 0).map xW).length : Nat) : Int)) = ((12 + 16 * l.length + (zl gap T).length + 4 * gap : Nat) : Int) := by
        rw [List.length_map, List.length_append, List.length_replicate, qB (by omega) (by omega)]; omega
      have lw : ∀ A, (xe 4 A).length = 4 := zE 4
      have hup2 : zB ((zl gap T).length + 4 * gap + t.Data_.length) - ((zl gap T).length + 4 * gap + t.Data_.length) = zB t.Data_.length - t.Data_.length := by unfold zB; omega
      have hup3 : zB ((zl gap T).length + 4 * gap + t.Data_.length) ≤ (zl gap T).length + 4 * gap + t.Data_.length + 3 := by unfold zB; omega
      have hl0 : ((zl gap T ++ List.replicate (4 * gap) 0) ++ t.Data_).length = (zl gap T).length + 4 * gap + t.Data_.length := by simp only [List.length_append, List.length_replicate]
      have hrl := jI (12 + 16 * l.length) gap T (fun u hu => htag u (by rw [← h1]; exact List.mem_append_right _ hu))
      rw [ei, if_pos (by omega), eg, y7 (by omega), Bool.true_and, Int.toNat_natCast, xw (by rw [List.length_map]; omega), qn, qF, hzs, e12, eat, qF, zx (by omega), qn, e1,
        xw (by rw [List.length_map, List.length_append, List.length_replicate]; omega), qn, qF, x6, Zd K _ _ _ _ _ K _ (by rw [List.length_map, hl0, hup2]; unfold zB; omega) (by rw [List.length_map, hl0]; omega), List.length_map, hl0, hup2]
      unfold qb.j5
      rw [e1, Zm K _ (by omega) (by omega) (by omega), qJ.bind_ok, v6 K _ hw, qJ.bind_ok, zg (by rw [ht4, lw]; omega), qn, z4 (by omega) (by omega), v6 K _ (by omega), qJ.bind_ok, zg (by simp only [List.length_append, ht4, lw]; omega), qn,
        z4 (by omega) (by omega), v6 K _ (by omega), qJ.bind_ok, zg (by simp only [List.length_append, ht4, lw]; omega), qn, qF, zg (by simp only [List.length_append, ht4, lw, hrl]; omega), qn, qF, qF,
        show qC ((D'.length : Int) - 1) = (D'.length : Int) - 1 from qB (by omega) (by omega)]
      rw [show List.replicate (zB t.Data_.length - t.Data_.length) (0 : Int) = (List.replicate (zB t.Data_.length - t.Data_.length) (0 : UInt8)).map xW from by rw [List.map_replicate]; rfl, x6]
      have eb : ((zl gap T ++ List.replicate (4 * gap) 0) ++ t.Data_) ++ List.replicate (zB t.Data_.length - t.Data_.length) 0 = zl gap (t :: T) := by rw [zl]; unfold vA; simp only [List.append_assoc]
      have er : ((((t.Tag_ ++ xe 4 (xN t.Data_)) ++ xe 4 (12 + 16 * l.length + (zl gap T).length + 4 * gap)) ++ xe 4 t.Data_.length) ++ xR (12 + 16 * l.length) gap T) = xR (12 + 16 * l.length) gap (t :: T) := rfl
      rw [eb, er]
      exact ih D' (t :: T) (by rw [← h1]; simp) (by omega)
def x7 (kind gap : Nat) (l : List Tb) : List UInt8 := zQ kind l.length ++ (xR (12 + 16 * l.length) gap l ++ zl gap l)
theorem uW {kind gap : Nat} {l : List Tb} (hok : j9 none l = true) {i : Nat} {t : Tb} (ht : l[i]? = some t) : Good (x7 kind gap l) l.length i (12 + 16 * l.length + (zl gap (l.drop (i + 1))).length + 4 * gap) t := by
  have htg := jj none l hok
  have h4 : ∀ u ∈ l, u.Tag_.length = 4 := fun u hu => yl (htg u hu).1
  obtain ⟨hl, hi⟩ := Zu ht
  have hmem : t ∈ l := List.mem_of_getElem? ht
  obtain ⟨Q, hQ⟩ := jx gap (t :: l.drop (i + 1)) (l.take i)
  rw [← hl, zl] at hQ
  have hR : ∀ base, ∃ P, xR base gap l = P ++ xR base gap (t :: l.drop (i + 1)) ∧ P.length = 16 * i := by
    intro base
    obtain ⟨P, h1, h2⟩ := jH base gap (t :: l.drop (i + 1)) (l.take i) (fun u hu => h4 u (List.mem_of_mem_take hu))
    rw [← hl, hi] at *
    exact ⟨P, h1, h2⟩
  obtain ⟨P, hP, hPl⟩ := hR (12 + 16 * l.length)
  rw [xR] at hP
  have hrl := jI (12 + 16 * l.length) gap l h4
  have hpl := yh t
  refine ⟨?_, ?_, by omega, ?_, ?_, (htg t hmem).1, (htg t hmem).2⟩
  · unfold yz x7
    rw [hP]
    have e : ∀ A B C D E : List UInt8, A ++ ((B ++ (C ++ D)) ++ E) = (A ++ B) ++ (C ++ (D ++ E)) := fun A B C D E => by simp only [List.append_assoc]
    rw [e, vg _ _ (by rw [List.length_append, zS, hPl]), yR _ _ (vt (h4 t hmem)).symm]
  · have := jz gap (l.drop (i + 1)); omega
  · unfold x7
    rw [List.length_append, List.length_append, zS, hrl, hQ, List.length_append, List.length_append, List.length_append, List.length_replicate, hpl]; omega
  · unfold x7
    rw [hQ]
    have e : ∀ A B C D E F : List UInt8, A ++ (B ++ ((C ++ (D ++ E)) ++ F)) = (A ++ B ++ C ++ D) ++ (E ++ F) := fun A B C D E F => by simp only [List.append_assoc]
    rw [e, vg _ _ (by rw [List.length_append, List.length_append, List.length_append, zS, hrl, List.length_replicate]), yR _ _ hpl.symm]
theorem ue {gap : Nat} {l : List Tb} : ∀ i j t u, i < j → j < l.length → l[i]? = some t → l[j]? = some u →
    12 + 16 * l.length + (zl gap (l.drop (i + 1))).length + 4 * gap + zB t.Data_.length ≤ 12 + 16 * l.length + (zl gap (l.drop (j + 1))).length + 4 * gap ∨
    12 + 16 * l.length + (zl gap (l.drop (j + 1))).length + 4 * gap + zB u.Data_.length ≤ 12 + 16 * l.length + (zl gap (l.drop (i + 1))).length + 4 * gap := by
  intro i j t u hij hj ht hu
  right
  obtain ⟨h1, h2⟩ := List.getElem?_eq_some_iff.1 hu
  have hd : l.drop j = u :: l.drop (j + 1) := by rw [List.drop_eq_getElem_cons h1, h2]
  obtain ⟨Q, hQ⟩ := jx gap (l.drop j) ((l.drop (i + 1)).take (j - (i + 1)))
  have e : (l.drop (i + 1)).take (j - (i + 1)) ++ l.drop j = l.drop (i + 1) := by
    have := List.take_append_drop (j - (i + 1)) (l.drop (i + 1))
    rw [List.drop_drop, show i + 1 + (j - (i + 1)) = j by omega] at this
    exact this
  rw [e, hd, zl] at hQ
  have := congrArg List.length hQ
  simp only [List.length_append, List.length_replicate, yh] at this
  omega
theorem uC (K : Nat) (hK : 9223372036854775807 < K) (kind : Nat) (hk : kind < 4294967296) (l : List Tb) (gap : Int) (hb : ∀ t ∈ l, t.Tag_.length ≤ 9223372036854775807) : qb.m K (kind : Int) l gap = .ok true := by
  have stop : ∀ k l gap, qb.j2 K k l gap true = .ok true := by
    intro k l gap
    unfold qb.j2
    rw [cond_true, Q8 K (by omega)]; rfl
  unfold qb.m
  obtain ⟨b, hs, h⟩ := XM K l (by omega)
  rw [hs, qJ.bind_ok]
  cases b with
  | false => rw [show ((((!false) || decide ((l.length : Int) > 40)) || decide (gap < 0)) || decide (gap > 100)) = true from by simp, cond_true]; unfold qb.j1; rw [cond_true, stop]
  | true =>
    have hf := Yn hK hb (h rfl)
    have hlen := hf.len
    have hsz := hf.sz
    rw [Bool.not_true, Bool.false_or]
    by_cases hc : l.length ≤ 40 ∧ 0 ≤ gap ∧ gap ≤ 100
    · obtain ⟨g, rfl⟩ := Int.eq_ofNat_of_zero_le hc.2.1
      rw [show ((decide ((l.length : Int) > 40) || decide ((g : Int) < 0)) || decide ((g : Int) > 100)) = false from by
        rw [Bool.or_eq_false_iff, Bool.or_eq_false_iff]; exact ⟨⟨decide_eq_false (by omega), decide_eq_false (by omega)⟩, decide_eq_false (by omega)⟩, cond_false]
      unfold zT.m qb.j1
      rw [Q6, qF, qJ.bind_ok]
      by_cases h1 : kind = 65536 ∨ kind = 1330926671
      · rw [decide_eq_true h1, Bool.not_true, cond_false, Xo K l (by omega) hf.tag (by omega) (by omega), qJ.bind_ok]
        by_cases h2 : j9 none l = true ∧ 0 < l.length
        · have htg := jj none l h2.1
          have h4 : ∀ u ∈ l, u.Tag_.length = 4 := fun u hu => yl (htg u hu).1
          unfold qb.j2
          rw [h2.1, decide_eq_true h2.2, decide_eq_true (show l.length ≤ 1000 by omega), show (!(true && (true && true))) = false from rfl, cond_false, qB (by omega) (by omega), qF]
          have := QP K kind g l (by omega) hc.1 h4 hf.dat hsz (by omega) K l [] (by simp) (by omega)
          refine (show _ = qb.l3 K (kind : Int) l (g : Int) K (xR (12 + 16 * l.length) g []) ((zl g []).map xW) ((l.length : Int) - 1) from rfl).trans ?_
          rw [this]
          have hbl := jy g l
          have hgl : 4 * g * l.length ≤ 400 * 40 := Nat.mul_le_mul (by omega) hc.1
          have hrl := jI (12 + 16 * l.length) g l h4
          have hsl : (x7 kind g l).length = 12 + (16 * l.length + (zl g l).length) := by unfold x7; rw [List.length_append, List.length_append, zS, hrl]
          unfold qb.j6
          rw [ZX K kind l.length hk h2.2 (by omega) (by omega), qJ.bind_ok, zg (by rw [zS, hrl]; omega), qn, xK, zg (by rw [List.length_append, zS, hrl]; omega), qn,
            List.append_assoc, show zQ kind l.length ++ (xR (12 + 16 * l.length) g l ++ zl g l) = x7 kind g l from rfl, Zh K _ (by omega) (by omega), qJ.bind_ok]
          have hA : QN (x7 kind g l) l (fun i => 12 + 16 * l.length + (zl g (l.drop (i + 1))).length + 4 * g) l.length := ⟨fun i t _ ht => uW h2.1 ht, ue, h2.1⟩
          have hr : uD (x7 kind g l) = ((kind : Int), l, 0) := QJ h1 ⟨h2.2, by omega⟩ (by unfold x7 at hsl; omega) (by rw [List.length_append, hrl]; omega) (by omega) hA
          rw [hr]
          dsimp only
          rw [beq_self_eq_true, beq_self_eq_true, Bool.true_and, cond_true, same K l (by omega) (by omega), qJ.bind_ok]
          unfold qb.j7 qb.j8
          rw [cond_true, Q8 K (by omega)]; rfl
        · have : (j9 none l && (decide (0 < l.length) && decide (l.length ≤ 1000))) = false := by
            rw [Bool.eq_false_iff]; intro h; simp only [Bool.and_eq_true, decide_eq_true_eq] at h; exact h2 ⟨h.1, h.2.1⟩
          rw [this, Bool.not_false, stop]
      · rw [decide_eq_false h1, Bool.not_false, cond_true, stop]
    · have : ((decide ((l.length : Int) > 40) || decide (gap < 0)) || decide (gap > 100)) = true := by
        by_cases h1 : l.length ≤ 40
        · by_cases h2 : 0 ≤ gap
          · rw [decide_eq_true (show gap > 100 by have : ¬ gap ≤ 100 := fun h => hc ⟨h1, h2, h⟩; omega), Bool.or_true]
          · rw [decide_eq_true (show gap < 0 by omega)]; simp
        · rw [decide_eq_true (show (l.length : Int) > 40 by omega)]; rfl
      rw [this, cond_true]; unfold qb.j1; rw [cond_true, stop]
theorem vo (kind : Int) (l : List Tb) (gap : Int) (hk : (Lit.int .u32 kind).wf = true) (hl : ∀ t ∈ l, t.Tag_.length ≤ maxLen ∧ t.Data_.length ≤ maxLen) (_ : l.length * 32 ≤ 140737488351232) (_ : (Lit.int .i64 gap).wf = true) : qb.m 10000000000000000000 kind l gap = .ok true := by
  obtain ⟨n, rfl, hn⟩ := Xs hk
  exact uC _ (by decide) n hn l gap (fun t ht => by have := (hl t ht).1; simpa [maxLen] using this)
end Go.Pn

