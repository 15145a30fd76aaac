/- Plain facts on the models: what they compute, and what holds of them; conditions: what each theorem states. -/
import Derived.Test.YtlaobafbdllajaaDoorMjnjgf
set_option linter.unusedVariables false
set_option linter.unusedSimpArgs false
namespace Go.Pu
open Go Go.Sl
theorem qB {x : Int} (h0 : -9223372036854775808 ≤ x) (h1 : x < 9223372036854775808) : qD x = x := by
  show (if (true && decide (x % 18446744073709551616 ≥ 9223372036854775808)) = true then x % 18446744073709551616 - 18446744073709551616 else x % 18446744073709551616) = x
  split <;> rename_i h <;> simp at h <;> omega
theorem Xl (x : Int) : wr .u64 x = x % 18446744073709551616 := by
  simp [wr, IntKind.wrap, IntKind.bits, IntKind.signed]
theorem Zk (x : Int) : wr .u32 x = x % 4294967296 := by
  simp [wr, IntKind.wrap, IntKind.bits, IntKind.signed]
theorem Xm (x : Int) : wr .u8 x = x % 256 := by
  simp [wr, IntKind.wrap, IntKind.bits, IntKind.signed]
theorem zW {x : Int} (h0 : 0 ≤ x) (h1 : x < 18446744073709551616) : wr .u64 x = x := by rw [Xl]; omega
theorem xo {x : Int} (h0 : 0 ≤ x) (h1 : x < 4294967296) : wr .u32 x = x := by rw [Zk]; omega
theorem vQ {x : Int} (h0 : 0 ≤ x) (h1 : x < 256) : wr .u8 x = x := by rw [Xm]; omega
theorem z3 {x : Int} (h0 : -9223372036854775808 ≤ x) (h1 : x < 9223372036854775808) : wr .i64 x = x := qB h0 h1
theorem yN (n a : Nat) : BitVec.ofInt n (a : Int) = BitVec.ofNat n a := by
  apply BitVec.eq_of_toNat_eq
  simp
theorem QM {a b : Nat} (ha : a < 18446744073709551616) (hb : b < 18446744073709551616) : je .u64 a b = ((a &&& b : Nat) : Int) := by
  show IntKind.u64.wrap ((BitVec.ofInt 64 (a : Int) &&& BitVec.ofInt 64 (b : Int)).toNat : Int) = _
  simp only [yN, BitVec.toNat_and, BitVec.toNat_ofNat]
  rw [Nat.mod_eq_of_lt (by simpa using ha), Nat.mod_eq_of_lt (by simpa using hb)]
  have : a &&& b ≤ a := Nat.and_le_left
  exact zW (by omega) (by omega)
theorem QL {a b : Nat} (ha : a < 9223372036854775808) (hb : b < 9223372036854775808) : je .i64 a b = ((a &&& b : Nat) : Int) := by
  show IntKind.i64.wrap ((BitVec.ofInt 64 (a : Int) &&& BitVec.ofInt 64 (b : Int)).toNat : Int) = _
  simp only [yN, BitVec.toNat_and, BitVec.toNat_ofNat]
  rw [Nat.mod_eq_of_lt (by omega), Nat.mod_eq_of_lt (by omega)]
  have : a &&& b ≤ a := Nat.and_le_left
  exact qB (by omega) (by omega)
theorem Zv {a b : Nat} (ha : a < 18446744073709551616) (hb : b < 18446744073709551616) : Z5 .u64 a b = ((a ||| b : Nat) : Int) := by
  show IntKind.u64.wrap ((BitVec.ofInt 64 (a : Int) ||| BitVec.ofInt 64 (b : Int)).toNat : Int) = _
  simp only [yN, BitVec.toNat_or, BitVec.toNat_ofNat]
  rw [Nat.mod_eq_of_lt (by simpa using ha), Nat.mod_eq_of_lt (by simpa using hb)]
  have : a ||| b < 2 ^ 64 := Nat.or_lt_two_pow (by simpa using ha) (by simpa using hb)
  exact zW (by omega) (by omega)
theorem v5 {a b : Nat} (ha : a < 9223372036854775808) (hb : b < 9223372036854775808) : jf .i64 (a : Int) (b : Int) = ((a / b : Nat) : Int) := by
  unfold jf
  have h1 : (a : Int).tdiv (b : Int) = ((a / b : Nat) : Int) := by rw [Int.ofNat_tdiv]
  rw [h1]
  have h2 : a / b ≤ a := Nat.div_le_self _ _
  generalize a / b = q at h2 ⊢
  exact qB (by omega) (by omega)
theorem jY {a b : Nat} : jg (a : Int) (b : Int) = ((a % b : Nat) : Int) := by
  unfold jg
  rw [Int.ofNat_tmod]
theorem jh {k : IntKind} {a n : Nat} (hn : n ≤ k.bits) : x2 k (a : Int) (n : Int) = ((a / 2 ^ n : Nat) : Int) := by
  unfold x2
  rw [Int.toNat_natCast, Nat.min_eq_left hn, Int.fdiv_eq_ediv_of_nonneg _ (Int.pow_nonneg (by decide))]
  simp
theorem QR {a n : Nat} (hn : n ≤ 64) (h : a * 2 ^ n < 18446744073709551616) : jO .u64 (a : Int) (n : Int) = ((a * 2 ^ n : Nat) : Int) := by
  unfold jO
  rw [Int.toNat_natCast, show min n IntKind.u64.bits = n from Nat.min_eq_left hn]
  have e : (a : Int) * 2 ^ n = ((a * 2 ^ n : Nat) : Int) := by push_cast; rfl
  rw [e]
  exact zW (by omega) (by omega)
theorem QQ {a n : Nat} (hn : n ≤ 32) (h : a * 2 ^ n < 4294967296) : jO .u32 (a : Int) (n : Int) = ((a * 2 ^ n : Nat) : Int) := by
  unfold jO
  rw [Int.toNat_natCast, show min n IntKind.u32.bits = n from Nat.min_eq_left hn]
  have e : (a : Int) * 2 ^ n = ((a * 2 ^ n : Nat) : Int) := by push_cast; rfl
  rw [e]
  exact xo (by omega) (by omega)
end Go.Pu

namespace Go.Pn
open Go Go.Sl Go.Pu
theorem uG {i : Int} {n : Nat} (h0 : 0 ≤ i) (h1 : i < (n : Int)) : inb i n = true := yM.2 ⟨h0, h1⟩
theorem zP {lo hi : Int} {n : Nat} (h0 : 0 ≤ lo) (h1 : lo ≤ hi) (h2 : hi ≤ (n : Int)) : subok lo hi n = true := yQ.2 ⟨h0, h1, h2⟩
theorem zZ {n k : Nat} (h : n * k ≤ 140737488355328) : room n k = true := decide_eq_true h
theorem zN {n : Nat} (h : n ≤ 9223372036854775807) : yg n = true := decide_eq_true h
theorem ju {x : Int} (h : 0 ≤ x) : decide (0 ≤ x) = true := decide_eq_true h
section
variable {α : Type}
theorem qv {p : Prop} [Decidable p] (a b : α) : cond (decide p) a b = if p then a else b := by
  by_cases h : p <;> simp [h]
theorem ja {x y : Int} (a b : α) : cond (x == y) a b = if x = y then a else b := by
  by_cases h : x = y
  · rw [if_pos h, beq_iff_eq.2 h]; rfl
  · rw [if_neg h, beq_eq_false_iff_ne.2 h]; rfl
theorem xw {x y : Int} (a b : α) : cond (x != y) a b = if x = y then b else a := by
  by_cases h : x = y
  · rw [if_pos h, bne_eq_false_iff_eq.2 h]; rfl
  · rw [if_neg h, bne_iff_ne.2 h]; rfl
theorem yA (x : Bool) (a b : α) : cond (!x) a b = cond x b a := by cases x <;> rfl
theorem vY (x y : Bool) (a b : α) : cond (x && y) a b = cond x (cond y a b) b := by cases x <;> rfl
theorem jb (x y : Bool) (a b : α) : cond (x || y) a b = cond x a (cond y a b) := by cases x <;> rfl
end
theorem Q6 {α : Type} [Inhabited α] {l : List α} {i : Nat} (h : i < l.length) : rd l (i : Int) = l[i] := by
  simp [rd, List.getD, List.getElem?_eq_getElem h]
theorem zw {i n : Nat} (h : i < n) : inb (i : Int) n = true := by simp only [inb, decide_eq_true_eq]; omega
theorem uz (n : Nat) : wr .u8 (n : Int) = ((n % 256 : Nat) : Int) := by rw [Xm]; rfl
theorem vO {α : Type} (l : List α) (n m : Nat) : sub l (n : Int) (m : Int) = (l.drop n).take (m - n) := by
  simp only [sub, Int.toNat_natCast]
theorem x4 {α : Type} (s : List α) (n : Nat) : sub s 0 (n : Int) = s.take n := by simp [sub]
theorem uu {α : Type} (s : List α) (n : Nat) : sub s (n : Int) (s.length : Int) = s.drop n := by
  simp only [sub, Int.toNat_natCast]
  exact List.take_of_length_le (by simp)
theorem x8 (l : List UInt8) : (l.map yl).map vf = l := by
  rw [List.map_map]
  have : (vf ∘ yl) = id := by funext x; simp [vf, yl]
  rw [this, List.map_id]
theorem vB {n : Nat} (h : n < 256) : yl (UInt8.ofNat n) = (n : Int) := by
  unfold yl
  have : (UInt8.ofNat n).toNat = n % 256 := by simp
  rw [this, Nat.mod_eq_of_lt h]
theorem yv {α : Type} [Inhabited α] (A : List α) (x : α) (B : List α) {i : Int} (h : i = (A.length : Int)) : rd (A ++ x :: B) i = x := by
  subst h; simp [rd, List.getD]
theorem Ze {α : Type} (A : List α) (x y : α) (B : List α) {i : Int} (h : i = (A.length : Int)) : (A ++ x :: B).set (Int.toNat i) y = A ++ y :: B := by
  subst h; simp
def yf (s : List UInt8) (i : Nat) : Nat := (s.getD i 0).toNat
theorem y8 (s : List UInt8) (i : Nat) : yf s i < 256 := (s.getD i 0).toNat_lt
theorem Qf {s : List UInt8} {i : Nat} : ((rd s (i : Int)).toNat : Int) = (yf s i : Int) := by
  simp only [rd, yf, Int.toNat_natCast]; rfl
theorem Xd {n : Nat} (h : n < 9223372036854775808) : je .i64 (n : Int) 3 = ((n % 4 : Nat) : Int) := by
  have := QL (a := n) (b := 3) h (by decide)
  rw [show ((3 : Nat) : Int) = 3 from rfl] at this
  rw [this, show n &&& 3 = n % 4 from Nat.and_two_pow_sub_one_eq_mod n 2]
def Qr (w : Nat) : Prop := w = 1 ∨ w = 2 ∨ w = 4 ∨ w = 8
def zm (s : List UInt8) (at_ : Nat) : Nat → Nat
  | 0 => 0
  | w + 1 => zm s at_ w * 256 + yf s (at_ + w)
theorem xq (s : List UInt8) (at_ : Nat) : ∀ w, zm s at_ w < 256 ^ w
  | 0 => by simp [zm]
  | w + 1 => by
    have := xq s at_ w
    have h2 := y8 s (at_ + w)
    rw [zm, Nat.pow_succ]; omega
def xR (s : List UInt8) (w : Nat) : Nat → Nat
  | 0 => 0
  | i + 1 => xR s w i + yf s (w - 1 - i) * 2 ^ (8 * i)
theorem vy (s : List UInt8) (w : Nat) : ∀ i, xR s w i < 2 ^ (8 * i)
  | 0 => by simp [xR]
  | i + 1 => by
    have := vy s w i
    have h2 := y8 s (w - 1 - i)
    have h3 : yf s (w - 1 - i) * 2 ^ (8 * i) ≤ 255 * 2 ^ (8 * i) := Nat.mul_le_mul_right _ (by omega)
    rw [xR, show 8 * (i + 1) = 8 * i + 8 by omega, Nat.pow_add]; omega
theorem vx (s : List UInt8) (w : Nat) : ∀ i, i ≤ w → zm s 0 w = zm s 0 (w - i) * 2 ^ (8 * i) + xR s w i
  | 0, _ => by simp [xR]
  | i + 1, h => by
    rw [vx s w i (by omega), xR]
    have e : w - i = (w - (i + 1)) + 1 := by omega
    rw [e, zm, Nat.zero_add, show w - 1 - i = w - (i + 1) by omega, show 8 * (i + 1) = 8 + 8 * i by omega, Nat.pow_add, Nat.add_mul, Nat.mul_assoc, show (2 : Nat) ^ 8 = 256 from rfl]
    omega
theorem uE (s : List UInt8) (at_ w i : Nat) (h : i < w) : yf ((s.drop at_).take w) i = yf s (at_ + i) := by
  unfold yf
  rw [List.getD_eq_getElem?_getD, List.getD_eq_getElem?_getD, List.getElem?_take, if_pos h, List.getElem?_drop]
theorem jQ (s : List UInt8) (at_ w j : Nat) : ∀ i, j + i ≤ w → zm ((s.drop at_).take w) j i = zm s (at_ + j) i
  | 0, _ => rfl
  | i + 1, h => by rw [zm, zm, jQ s at_ w j i (by omega), uE s at_ w (j + i) (by omega), Nat.add_assoc]
theorem QD (s : List UInt8) (at_ w : Nat) (i : Nat) (h : i ≤ w) : zm ((s.drop at_).take w) 0 i = zm s at_ i := jQ s at_ w 0 i (by omega)
def yo : Nat → Nat → List UInt8
  | 0, _ => []
  | w + 1, A => UInt8.ofNat (A / 256 ^ w % 256) :: yo w A
theorem z5 : ∀ w A, (yo w A).length = w
  | 0, _ => rfl
  | w + 1, A => by rw [yo, List.length_cons, z5 w A]
def uA (i : Nat) : List UInt8 → Nat
  | [] => 0
  | x :: r => x.toNat * 256 ^ (3 - i % 4) + uA (i + 1) r
def yw (s : List UInt8) : Nat := uA 0 s % 4294967296
theorem vg (s : List UInt8) : yw s < 4294967296 := Nat.mod_lt _ (by decide)
end Go.Pn

set_option maxRecDepth 100000
namespace Go.Pn
open Go Go.Sl Go.Pu Go.Mo
theorem jH (K : Nat) (w : Nat) (hw : Qr w) : xQ.m K (w : Int) = .ok true := by
  rcases hw with rfl | rfl | rfl | rfl <;> rfl
theorem Zi (K : Nat) (v : List UInt8) (w : Nat) (hw : w ≤ 8) (hv : v.length = w) : ∀ (j k i : Nat), i + j = w → j < k →
    qC.l1 K (w : Int) v k (xR v w i : Int) (i : Int) = .ok ((zm v 0 w : Int), 0) := by
  intro j
  induction j with
  | zero =>
    intro k i hi hk
    obtain ⟨k, rfl⟩ : ∃ m, k = m + 1 := ⟨k - 1, by omega⟩
    rw [qC.l1]
    have := vx v w w (Nat.le_refl _)
    rw [Nat.sub_self] at this
    have e : xR v w i = zm v 0 w := by
      rw [show i = w by omega, this]; simp [zm]
    simp (disch := omega) only [qN.bind_ok, qN.bind_pan, qo, qK, uw, cond_true, cond_false, qv, ja, xw, yA, vY, jb, qB, vQ, xo, zW, z3, uG, zP, zZ, zN, ju, Int.toNat_natCast, if_neg, e]
  | succ j ih =>
    intro k i hi hk
    obtain ⟨k, rfl⟩ : ∃ m, k = m + 1 := ⟨k - 1, by omega⟩
    rw [qC.l1]
    unfold zI.m
    have e1 : (w : Int) - 1 - (i : Int) = ((w - 1 - i : Nat) : Int) := by omega
    have e2 : (8 : Int) * (i : Int) = ((8 * i : Nat) : Int) := by omega
    have e6 : (i : Int) + 1 = ((i + 1 : Nat) : Int) := by push_cast; rfl
    have hb := y8 v (w - 1 - i)
    simp (disch := omega) only [qN.bind_ok, qN.bind_pan, qo, qK, uw, cond_true, cond_false, qv, ja, xw, yA, vY, jb, qB, vQ, xo, zW, z3, uG, zP, zZ, zN, ju, Int.toNat_natCast, if_pos, e1, e2, e6, Qf]
    have hpow : 2 ^ (8 * i) ≤ 2 ^ 56 := Nat.pow_le_pow_right (by decide) (by omega)
    have hm : yf v (w - 1 - i) * 2 ^ (8 * i) ≤ 255 * 2 ^ (8 * i) := Nat.mul_le_mul_right _ (by omega)
    have hl := vy v w i
    rw [QR (by omega) (by omega), Zv (by omega) (by omega)]
    have e3 : xR v w i ||| yf v (w - 1 - i) * 2 ^ (8 * i) = xR v w (i + 1) := by
      rw [Nat.or_comm, Nat.mul_comm, ← Nat.two_pow_add_eq_or_of_lt hl, xR, Nat.mul_comm]; omega
    rw [e3]
    exact ih k (i + 1) (by omega) (by omega)
def jt (s : List UInt8) (at_ w : Nat) : Nat × Int := if at_ + w ≤ s.length then (zm s at_ w, 0) else (0, 2)
theorem jl (K : Nat) (s : List UInt8) (base : Int) (at_ n : Nat) (hs : s.length < 140737488355328) (ha : at_ < 9223372036854775808) (hn : n < 9223372036854775808) (hb0 : 0 ≤ base) (hb1 : base < 140737488355328) :
    zt.m K ⟨s, base⟩ (at_ : Int) (n : Int) = if at_ + n ≤ s.length then .ok ((s.drop at_).take n, base + at_, 0) else .ok ([], 0, 2) := by
  unfold zt.m
  have h0 : (decide ((at_ : Int) < 0) || decide ((n : Int) < 0)) = false := by rw [Bool.or_eq_false_iff]; exact ⟨decide_eq_false (by omega), decide_eq_false (by omega)⟩
  rw [h0, cond_false]
  dsimp only
  by_cases h : at_ + n ≤ s.length
  · have h1 : (decide ((at_ : Int) > (s.length : Int)) || decide ((n : Int) > qD ((s.length : Int) - (at_ : Int)))) = false := by
      rw [Bool.or_eq_false_iff, qB (by omega) (by omega)]; exact ⟨decide_eq_false (by omega), decide_eq_false (by omega)⟩
    have e : qD ((at_ : Int) + (n : Int)) = ((at_ + n : Nat) : Int) := by rw [qB (by omega) (by omega)]; push_cast; rfl
    rw [h1, cond_false, if_pos h, e, zP (by omega) (by omega) (by omega), vO, Nat.add_sub_cancel_left, qB (by omega) (by omega)]
    rfl
  · have h1 : (decide ((at_ : Int) > (s.length : Int)) || decide ((n : Int) > qD ((s.length : Int) - (at_ : Int)))) = true := by
      rw [Bool.or_eq_true, decide_eq_true_eq, decide_eq_true_eq]
      by_cases h2 : at_ > s.length
      · left; omega
      · right; rw [qB (by omega) (by omega)]; omega
    rw [h1, cond_true, if_neg h]
theorem Zh (K : Nat) (s : List UInt8) (base : Int) (at_ w : Nat) (hw : Qr w) (hs : s.length < 140737488355328) (ha : at_ < 9223372036854775808) (hb0 : 0 ≤ base) (hb1 : base < 140737488355328) (hK : 8 < K) :
    qC.m K ⟨s, base⟩ (at_ : Int) (w : Int) = .ok (((jt s at_ w).1 : Int), (jt s at_ w).2) := by
  unfold qC.m jt
  have hw8 : w ≤ 8 := by unfold Qr at hw; omega
  rw [jH K w hw, jl K s base at_ w hs ha (by omega) hb0 hb1]
  simp only [qN.bind_ok, Bool.not_true, cond_false]
  by_cases h : at_ + w ≤ s.length
  · rw [if_pos h, if_pos h]
    have z : ((0 : Int) != 0) = false := rfl
    simp only [qN.bind_ok, z, cond_false, zV.m]
    have hl : ((s.drop at_).take w).length = w := by simp; omega
    have := Zi K ((s.drop at_).take w) w hw8 hl w K 0 (by omega) (by omega)
    rw [QD s at_ w w (Nat.le_refl _)] at this
    exact this
  · rw [if_neg h, if_neg h]
    rfl
theorem um (K : Nat) (w : Nat) (hw : Qr w) : zJ.m K (w : Int) = .ok true := by
  rcases hw with rfl | rfl | rfl | rfl <;> rfl
theorem uR (K : Nat) (s : List UInt8) (at_ w : Nat) (hw : w ≤ 8) (h : at_ + w ≤ s.length) (hs : s.length < 140737488355328) : ∀ (j k i : Nat), i + j = w → j < k →
    qw.l1 K s (at_ : Int) (w : Int) true k ((zm s at_ i : Nat) : Int) (i : Int) = .ok (((zm s at_ w : Nat) : Int), 0) := by
  intro j
  induction j with
  | zero =>
    intro k i hi hk
    obtain ⟨k, rfl⟩ : ∃ m, k = m + 1 := ⟨k - 1, by omega⟩
    have : i = w := by omega
    subst this
    rw [qw.l1, qv, if_neg (by omega)]
  | succ j ih =>
    intro k i hi hk
    obtain ⟨k, rfl⟩ : ∃ m, k = m + 1 := ⟨k - 1, by omega⟩
    have e1 : qD (qD (qD ((at_ : Int) + (w : Int)) - 1) - (i : Int)) = ((at_ + w - 1 - i : Nat) : Int) := by
      rw [qB (x := (at_ : Int) + (w : Int)) (by omega) (by omega), qB (x := (at_ : Int) + (w : Int) - 1) (by omega) (by omega), qB (by omega) (by omega)]; omega
    have e2 : qD ((at_ : Int) + (i : Int)) = ((at_ + i : Nat) : Int) := by rw [qB (by omega) (by omega)]; omega
    have e3 : qD ((i : Int) + 1) = ((i + 1 : Nat) : Int) := by rw [qB (by omega) (by omega)]; omega
    have hb := xq s at_ i
    have hp : 256 ^ i ≤ 256 ^ 7 := Nat.pow_le_pow_right (by decide) (by omega)
    have hxl := y8 s (at_ + i)
    rw [qw.l1, qv, if_pos (by omega), e1, zw (by omega), qo, qK, cond_true, e2, zw (by omega), qo, qK, Qf]
    unfold qw.j2
    have e4 : wr .u64 (wr .u64 (((zm s at_ i : Nat) : Int) * 256) + wr .u64 ((yf s (at_ + i) : Nat) : Int)) = ((zm s at_ (i + 1) : Nat) : Int) := by
      rw [zW (x := ((zm s at_ i : Nat) : Int) * 256) (by omega) (by omega), zW (x := ((yf s (at_ + i) : Nat) : Int)) (by omega) (by omega), zW (by omega) (by omega)]
      simp only [zm]; omega
    rw [e4, e3, qK, qK]
    exact ih k (i + 1) (by omega) (by omega)
theorem ZG (K : Nat) (s : List UInt8) (at_ w : Nat) (hw : Qr w) (hs : s.length < 140737488355328) (ha : at_ < 9223372036854775808) (hK : 8 < K) :
    qw.m K s (at_ : Int) (w : Int) true = .ok (((jt s at_ w).1 : Int), (jt s at_ w).2) := by
  have hw8 : w ≤ 8 := by unfold Qr at hw; omega
  unfold qw.m jt
  rw [um K w hw, qN.bind_ok, show ((!true) || decide ((at_ : Int) < 0)) = false from by rw [Bool.not_true, Bool.false_or]; exact decide_eq_false (by omega), cond_false]
  by_cases h : at_ + w ≤ s.length
  · have d : (decide ((at_ : Int) > (s.length : Int)) || decide ((w : Int) > qD ((s.length : Int) - (at_ : Int)))) = false := by
      rw [Bool.or_eq_false_iff, qB (by omega) (by omega)]
      exact ⟨decide_eq_false (by omega), decide_eq_false (by omega)⟩
    rw [d, cond_false, if_pos h]
    exact uR K s at_ w hw8 h hs w K 0 (by omega) (by omega)
  · have d : (decide ((at_ : Int) > (s.length : Int)) || decide ((w : Int) > qD ((s.length : Int) - (at_ : Int)))) = true := by
      rw [Bool.or_eq_true, decide_eq_true_eq, decide_eq_true_eq]
      by_cases h2 : at_ > s.length
      · left; omega
      · right; rw [qB (by omega) (by omega)]; omega
    rw [d, cond_true, if_neg h]; rfl
def uJ : List UInt8 := [0, 1, 2, 2, 3, 3, 3, 3, 4, 4, 4, 4, 4, 4, 4, 4, 5, 5, 5, 5, 5, 5, 5, 5, 5, 5, 5, 5, 5, 5, 5, 5, 6, 6, 6, 6, 6, 6, 6, 6, 6, 6, 6, 6, 6, 6, 6, 6, 6, 6, 6, 6, 6, 6, 6, 6, 6, 6, 6, 6, 6, 6, 6, 6, 7, 7, 7, 7, 7, 7, 7, 7, 7, 7, 7, 7, 7, 7, 7, 7, 7, 7, 7, 7, 7, 7, 7, 7, 7, 7, 7, 7, 7, 7, 7, 7, 7, 7, 7, 7, 7, 7, 7, 7, 7, 7, 7, 7, 7, 7, 7, 7, 7, 7, 7, 7, 7, 7, 7, 7, 7, 7, 7, 7, 7, 7, 7, 7, 8, 8, 8, 8, 8, 8, 8, 8, 8, 8, 8, 8, 8, 8, 8, 8, 8, 8, 8, 8, 8, 8, 8, 8, 8, 8, 8, 8, 8, 8, 8, 8, 8, 8, 8, 8, 8, 8, 8, 8, 8, 8, 8, 8, 8, 8, 8, 8, 8, 8, 8, 8, 8, 8, 8, 8, 8, 8, 8, 8, 8, 8, 8, 8, 8, 8, 8, 8, 8, 8, 8, 8, 8, 8, 8, 8, 8, 8, 8, 8, 8, 8, 8, 8, 8, 8, 8, 8, 8, 8, 8, 8, 8, 8, 8, 8, 8, 8, 8, 8, 8, 8, 8, 8, 8, 8, 8, 8, 8, 8, 8, 8, 8, 8, 8, 8, 8, 8, 8, 8, 8, 8, 8, 8, 8, 8, 8, 8]
theorem Qs : ∀ v : Nat, v < 256 → ∀ m : Nat, m < 9 → ((rd uJ (v : Int)).toNat ≤ m ↔ v < 2 ^ m) := by decide +kernel
def jF (x r : Nat) : Prop := ∀ m : Nat, r ≤ m ↔ x < 2 ^ m
theorem v6 {x r : Nat} (hx : x < 256) (h : ∀ m, m < 9 → (r ≤ m ↔ x < 2 ^ m)) : jF x r := by
  intro m
  by_cases hm : m < 9
  · exact h m hm
  · have h8 := (h 8 (by omega)).2 (by omega)
    have : 2 ^ 8 ≤ 2 ^ m := Nat.pow_le_pow_right (by decide) (by omega)
    constructor <;> intro _ <;> omega
theorem y2 {x r j : Nat} (hx : 2 ^ j ≤ x) (h : jF (x / 2 ^ j) r) : jF x (j + r) := by
  intro m
  by_cases hm : j ≤ m
  · have e : x / 2 ^ j < 2 ^ (m - j) ↔ x < 2 ^ m := by
      rw [Nat.div_lt_iff_lt_mul (Nat.two_pow_pos j), ← Nat.pow_add, show m - j + j = m by omega]
    rw [← e, ← h (m - j)]; omega
  · have : 2 ^ m < 2 ^ j := Nat.pow_lt_pow_right (by decide) (by omega)
    constructor <;> intro _ <;> omega
theorem v9 (K x n : Nat) (hx : x < 256) (hn : n ≤ 64) : ∃ r : Nat, jF x r ∧ qt.j3 K (x : Int) (n : Int) = .ok ((n + r : Nat) : Int) := by
  have ht := Qs x hx
  have e : wr .u8 (x : Int) = (x : Int) := vQ (by omega) (by omega)
  unfold qt.j3
  rw [e, zw (by simpa using hx), qo, qK]
  show ∃ r : Nat, jF x r ∧ qN.ok (qD ((n : Int) + wr .i64 (((rd uJ (x : Int)).toNat : Nat) : Int))) = .ok ((n + r : Nat) : Int)
  generalize (rd uJ (x : Int)).toNat = q at ht ⊢
  have hq := (ht 8 (by omega)).2 (by omega)
  have e2 : wr .i64 (q : Int) = (q : Int) := z3 (by omega) (by omega)
  rw [e2, qB (by omega) (by omega)]
  exact ⟨q, v6 hx ht, by rw [Int.natCast_add]⟩
theorem Xg (K x : Nat) (hx : x < 18446744073709551616) : ∃ r : Nat, jF x r ∧ qt.m K (x : Int) = .ok (r : Int) := by
  have j2 : ∀ y n : Nat, y < 65536 → n ≤ 48 → ∃ r : Nat, jF y r ∧ qt.j2 K (y : Int) (n : Int) = .ok ((n + r : Nat) : Int) := by
    intro y n hy hn
    unfold qt.j2
    rw [qv]
    by_cases h : y ≥ 256
    · have e : x2 .u64 (y : Int) 8 = ((y / 256 : Nat) : Int) := jh (n := 8) (by decide)
      rw [if_pos (by omega), qK, qK, e, qB (by omega) (by omega), show (n : Int) + 8 = ((n + 8 : Nat) : Int) from by omega]
      obtain ⟨r, hr, h2⟩ := v9 K (y / 256) (n + 8) (by omega) (by omega)
      exact ⟨8 + r, y2 (j := 8) (by omega) hr, by rw [h2, Nat.add_assoc]⟩
    · rw [if_neg (by omega)]
      exact v9 K y n (by omega) (by omega)
  have j1 : ∀ y n : Nat, y < 4294967296 → n ≤ 32 → ∃ r : Nat, jF y r ∧ qt.j1 K (y : Int) (n : Int) = .ok ((n + r : Nat) : Int) := by
    intro y n hy hn
    unfold qt.j1
    rw [qv]
    by_cases h : y ≥ 65536
    · have e : x2 .u64 (y : Int) 16 = ((y / 65536 : Nat) : Int) := jh (n := 16) (by decide)
      rw [if_pos (by omega), qK, qK, e, qB (by omega) (by omega), show (n : Int) + 16 = ((n + 16 : Nat) : Int) from by omega]
      obtain ⟨r, hr, h2⟩ := j2 (y / 65536) (n + 16) (by omega) (by omega)
      exact ⟨16 + r, y2 (j := 16) (by omega) hr, by rw [h2, Nat.add_assoc]⟩
    · rw [if_neg (by omega)]
      exact j2 y n (by omega) (by omega)
  unfold qt.m
  rw [qv]
  by_cases h : x ≥ 4294967296
  · have e : x2 .u64 (x : Int) 32 = ((x / 4294967296 : Nat) : Int) := jh (n := 32) (by decide)
    rw [if_pos (by omega), qK, e, show (32 : Int) = ((32 : Nat) : Int) from rfl]
    obtain ⟨r, hr, h2⟩ := j1 (x / 4294967296) 32 (by omega) (by omega)
    exact ⟨32 + r, y2 (j := 32) (by omega) hr, h2⟩
  · rw [if_neg (by omega), show (0 : Int) = ((0 : Nat) : Int) from rfl]
    obtain ⟨r, hr, h2⟩ := j1 x 0 (by omega) (by omega)
    rw [Nat.zero_add] at h2
    exact ⟨r, hr, h2⟩
theorem uy (K A w : Nat) (hw : w ≤ 8) (z : List Int) (hz : z.length = w) : ∀ (j k i : Nat), i + j = w → j < k →
    q9.l1 K (A : Int) (w : Int) z k (List.replicate (w - i) 0 ++ (yo i A).map yl) (i : Int) = .ok (yo w A, 0) := by
  intro j
  induction j with
  | zero =>
    intro k i hi hk
    obtain ⟨k, rfl⟩ : ∃ m, k = m + 1 := ⟨k - 1, by omega⟩
    have : i = w := by omega
    subst this
    rw [q9.l1, qv, if_neg (by omega), qK, Nat.sub_self]
    simp only [List.replicate_zero, List.nil_append, x8]
  | succ j ih =>
    intro k i hi hk
    obtain ⟨k, rfl⟩ : ∃ m, k = m + 1 := ⟨k - 1, by omega⟩
    have e1 : qD (qD ((w : Int) - 1) - (i : Int)) = ((w - 1 - i : Nat) : Int) := by rw [qB (x := (w : Int) - 1) (by omega) (by omega), qB (by omega) (by omega)]; omega
    have e2 : qD ((8 : Int) * (i : Int)) = ((8 * i : Nat) : Int) := by rw [qB (by omega) (by omega)]; omega
    have e3 : qD ((i : Int) + 1) = ((i + 1 : Nat) : Int) := by rw [qB (by omega) (by omega)]; omega
    have hl : (List.replicate (w - i) (0 : Int) ++ (yo i A).map yl).length = w := by simp only [List.length_append, List.length_replicate, List.length_map, z5]; omega
    have hset : (List.replicate (w - i) (0 : Int) ++ (yo i A).map yl).set (w - 1 - i) ((A / 256 ^ i % 256 : Nat) : Int) = List.replicate (w - (i + 1)) 0 ++ (yo (i + 1) A).map yl := by
      have e : List.replicate (w - i) (0 : Int) ++ (yo i A).map yl = List.replicate (w - (i + 1)) 0 ++ 0 :: (yo i A).map yl := by
        rw [show w - i = (w - (i + 1)) + 1 by omega, List.replicate_succ']; simp
      have := Ze (List.replicate (w - (i + 1)) (0 : Int)) 0 ((A / 256 ^ i % 256 : Nat) : Int) ((yo i A).map yl) (i := ((w - 1 - i : Nat) : Int)) (by rw [List.length_replicate]; omega)
      rw [e, Int.toNat_natCast] at *
      rw [this, yo, List.map_cons, vB (Nat.mod_lt _ (by decide))]
    rw [q9.l1, qv, if_pos (by omega), e2, ju (by omega), qo]
    unfold zI.m
    rw [e1, qK, qN.bind_ok, zw (by rw [hl]; omega), qo, qK, e3, jh (show 8 * i ≤ 64 by omega), uz, show 2 ^ (8 * i) = 256 ^ i from by rw [Nat.pow_mul], Int.toNat_natCast, hset]
    exact ih k (i + 1) (by omega) (by omega)
def yp (w A : Nat) : List UInt8 × Int := if A < 256 ^ w then (yo w A, 0) else ([], 10)
theorem ux (K A w : Nat) (hw : Qr w) (hA : A < 18446744073709551616) (hK : 8 < K) : q9.m K (A : Int) (w : Int) = .ok (yp w A) := by
  have hw8 : w ≤ 8 := by unfold Qr at hw; omega
  obtain ⟨r, hr, h⟩ := Xg K A hA
  unfold q9.m yp
  rw [jH K w hw, qN.bind_ok, Bool.not_true, cond_false, h, qN.bind_ok, qv, qB (by omega) (by omega)]
  have hm := hr (8 * w)
  rw [Nat.pow_mul, show (2 : Nat) ^ 8 = 256 from rfl] at hm
  by_cases hf : A < 256 ^ w
  · have := hm.2 hf
    have hl := uy K A w hw8 (List.replicate w 0) (List.length_replicate ..) w K 0 (by omega) (by omega)
    simp only [Nat.sub_zero, yo, List.map_nil, List.append_nil] at hl
    rw [if_pos hf, if_neg (by omega)]
    unfold zV.m
    rw [qN.bind_ok, ju (by omega), Bool.true_and, zZ (by omega), qo, qK, Int.toNat_natCast]
    exact hl
  · rw [if_neg hf, if_pos (by omega)]
theorem uj (K A w : Nat) (hw : w ≤ 8) (hA : A < 18446744073709551616) : ∀ (j k i : Nat), i + j = w → j < k →
    qm.l1 K (w : Int) true k ((A / 256 ^ i : Nat) : Int) (List.replicate (w - i) 0 ++ (yo i A).map yl) (i : Int) = .ok (yp w A) := by
  intro j
  induction j with
  | zero =>
    intro k i hi hk
    obtain ⟨k, rfl⟩ : ∃ m, k = m + 1 := ⟨k - 1, by omega⟩
    have : i = w := by omega
    subst this
    rw [qm.l1, qv, if_neg (by omega)]
    unfold qm.j3 yp
    rw [qv]
    by_cases hf : A < 256 ^ i
    · rw [if_pos hf, Nat.div_eq_of_lt hf, if_neg (by omega), qK, Nat.sub_self]
      simp only [List.replicate_zero, List.nil_append, x8]
    · have : 0 < A / 256 ^ i := Nat.div_pos (by omega) (Nat.pow_pos (by decide))
      rw [if_neg hf, if_pos (by omega)]
  | succ j ih =>
    intro k i hi hk
    obtain ⟨k, rfl⟩ : ∃ m, k = m + 1 := ⟨k - 1, by omega⟩
    have hle : A / 256 ^ i ≤ A := Nat.div_le_self _ _
    have e1 : qD (qD ((w : Int) - 1) - (i : Int)) = ((w - 1 - i : Nat) : Int) := by rw [qB (x := (w : Int) - 1) (by omega) (by omega), qB (by omega) (by omega)]; omega
    have e3 : qD ((i : Int) + 1) = ((i + 1 : Nat) : Int) := by rw [qB (by omega) (by omega)]; omega
    have hl : (List.replicate (w - i) (0 : Int) ++ (yo i A).map yl).length = w := by simp only [List.length_append, List.length_replicate, List.length_map, z5]; omega
    have hset : (List.replicate (w - i) (0 : Int) ++ (yo i A).map yl).set (w - 1 - i) ((A / 256 ^ i % 256 : Nat) : Int) = List.replicate (w - (i + 1)) 0 ++ (yo (i + 1) A).map yl := by
      have e : List.replicate (w - i) (0 : Int) ++ (yo i A).map yl = List.replicate (w - (i + 1)) 0 ++ 0 :: (yo i A).map yl := by
        rw [show w - i = (w - (i + 1)) + 1 by omega, List.replicate_succ']; simp
      have := Ze (List.replicate (w - (i + 1)) (0 : Int)) 0 ((A / 256 ^ i % 256 : Nat) : Int) ((yo i A).map yl) (i := ((w - 1 - i : Nat) : Int)) (by rw [List.length_replicate]; omega)
      rw [e, Int.toNat_natCast] at *
      rw [this, yo, List.map_cons, vB (Nat.mod_lt _ (by decide))]
    have e5 : jg ((A / 256 ^ i : Nat) : Int) 256 = ((A / 256 ^ i % 256 : Nat) : Int) := jY (b := 256)
    have e6 : jf .u64 ((A / 256 ^ i : Nat) : Int) 256 = ((A / 256 ^ (i + 1) : Nat) : Int) := by
      unfold jf
      have e : Int.tdiv ((A / 256 ^ i : Nat) : Int) 256 = ((A / 256 ^ i / 256 : Nat) : Int) := (Int.ofNat_tdiv (A / 256 ^ i) 256).symm
      rw [e, Nat.div_div_eq_div_mul, show 256 ^ i * 256 = 256 ^ (i + 1) from (Nat.pow_succ ..).symm]
      have := Nat.div_le_self A (256 ^ (i + 1))
      generalize A / 256 ^ (i + 1) = z at this
      exact zW (by omega) (by omega)
    rw [qm.l1, qv, if_pos (by omega), cond_true, qK]
    unfold qm.j2
    rw [e1, zw (by rw [hl]; omega), qo, qK, qK, qK, e3, e5, e6, uz, Nat.mod_mod, Int.toNat_natCast, hset]
    exact ih k (i + 1) (by omega) (by omega)
theorem ui (K A w : Nat) (hw : Qr w) (hA : A < 18446744073709551616) (hK : 8 < K) : qm.m K (A : Int) (w : Int) true = .ok (yp w A) := by
  have hw8 : w ≤ 8 := by unfold Qr at hw; omega
  have hl := uj K A w hw8 hA w K 0 (by omega) (by omega)
  simp only [Nat.sub_zero, yo, List.map_nil, List.append_nil, Nat.pow_zero, Nat.div_one] at hl
  unfold qm.m
  rw [um K w hw, qN.bind_ok, Bool.not_true, cond_false, ju (by omega), Bool.true_and, zZ (by omega), qo, qK, Int.toNat_natCast]
  exact hl
theorem vK (K : Nat) (s : List UInt8) (hs : s.length < 140737488355328) : ∀ (k : Nat) (D T : List UInt8) (n : Nat), D ++ T = s → T.length < k → n < 4294967296 →
    zH.l1 K s k (n : Int) (D.length : Int) = .ok (((n + uA D.length T) % 4294967296 : Nat) : Int) := by
  intro k
  induction k with
  | zero => intro D T n _ h; omega
  | succ k ih =>
    intro D T n h1 hk hn
    have hlen : D.length + T.length = s.length := by rw [← h1]; simp
    rw [zH.l1, qv]
    cases T with
    | nil =>
      rw [if_neg (by simp only [List.length_nil] at hlen; omega), uA, Nat.add_zero, Nat.mod_eq_of_lt hn]
    | cons x T =>
      simp only [List.length_cons] at hlen hk
      have e1 : rd s (D.length : Int) = x := by rw [← h1]; exact yv D x T rfl
      have e3 : qD ((D.length : Int) + 1) = ((D ++ [x]).length : Int) := by rw [qB (by omega) (by omega)]; simp
      have hx := x.toNat_lt
      have hd : D.length % 4 < 4 := Nat.mod_lt _ (by decide)
      have e4 : qD ((24 : Int) - qD (8 * ((D.length % 4 : Nat) : Int))) = ((24 - 8 * (D.length % 4) : Nat) : Int) := by
        rw [qB (x := 8 * _) (by omega) (by omega), qB (by omega) (by omega)]; omega
      have hpow : 2 ^ (24 - 8 * (D.length % 4)) = 256 ^ (3 - D.length % 4) := by rw [show 24 - 8 * (D.length % 4) = 8 * (3 - D.length % 4) by omega, Nat.pow_mul]
      have hple : 256 ^ (3 - D.length % 4) ≤ 256 ^ 3 := Nat.pow_le_pow_right (by decide) (by omega)
      have hm : x.toNat * 256 ^ (3 - D.length % 4) ≤ 255 * 256 ^ 3 := Nat.mul_le_mul (by omega) hple
      rw [if_pos (by omega), zw (by omega), qo, e1, Xd (by omega), e4, ju (by omega), qo, qK, xo (x := ((x.toNat : Nat) : Int)) (by omega) (by omega), QQ (by omega) (by rw [hpow]; omega), hpow, Zk, e3]
      have e5 : ((n : Int) + ((x.toNat * 256 ^ (3 - D.length % 4) : Nat) : Int)) % 4294967296 = (((n + x.toNat * 256 ^ (3 - D.length % 4)) % 4294967296 : Nat) : Int) := by omega
      rw [e5, ih (D ++ [x]) T _ (by rw [← h1]; simp) (by omega) (Nat.mod_lt _ (by decide)), uA, List.length_append, List.length_singleton]
      congr 2
      omega
theorem vD (K : Nat) (s : List UInt8) (hs : s.length < 140737488355328) (hK : s.length < K) : zH.m K s = .ok ((yw s : Nat) : Int) := by
  have := vK K s hs K [] s 0 rfl hK (by decide)
  rw [Nat.zero_add] at this
  exact this
theorem ur (K : Nat) (g : Int → Int → qN Int) (n i : Nat) (hn : n < 4294967296) (hi : i < 140737488355328) : ∀ (j k q b : Nat), q + j = 3 → j < k → b < 256 ^ (q + 1) →
    qu.l2 K g (n : Int) (i : Int) k (b : Int) (q : Int) = g (((n + b * 256 ^ j) % 4294967296 : Nat) : Int) ((i + 1 : Nat) : Int) := by
  intro j
  induction j with
  | zero =>
    intro k q b hq hk hb
    obtain ⟨k, rfl⟩ : ∃ m, k = m + 1 := ⟨k - 1, by omega⟩
    have e3 : qD ((i : Int) + 1) = ((i + 1 : Nat) : Int) := by rw [qB (by omega) (by omega)]; omega
    rw [qu.l2, qv, if_neg (by omega), qK, qK, e3, Zk, Nat.pow_zero, Nat.mul_one]
    congr 1
  | succ j ih =>
    intro k q b hq hk hb
    obtain ⟨k, rfl⟩ : ∃ m, k = m + 1 := ⟨k - 1, by omega⟩
    have e3 : qD ((q : Int) + 1) = ((q + 1 : Nat) : Int) := by rw [qB (by omega) (by omega)]; omega
    have hp : 256 ^ (q + 1) ≤ 256 ^ 3 := Nat.pow_le_pow_right (by decide) (by omega)
    have hb2 : b * 256 < 256 ^ (q + 1 + 1) := by rw [Nat.pow_succ]; omega
    have e4 : wr .u32 ((b : Int) * 256) = ((b * 256 : Nat) : Int) := by rw [xo (by omega) (by omega)]; omega
    rw [qu.l2, qv, if_pos (by omega), qK, qK, e3, e4, ih k (q + 1) (b * 256) (by omega) (by omega) hb2, Nat.mul_assoc, Nat.pow_succ, Nat.mul_comm 256]
theorem uq (K : Nat) (hK : 4 < K) (s : List UInt8) (hs : s.length < 140737488355328) : ∀ (k : Nat) (D T : List UInt8) (n : Nat), D ++ T = s → T.length < k → n < 4294967296 →
    qu.l1 K s k (n : Int) (D.length : Int) = .ok (((n + uA D.length T) % 4294967296 : Nat) : Int) := by
  intro k
  induction k with
  | zero => intro D T n _ h; omega
  | succ k ih =>
    intro D T n h1 hk hn
    have hlen : D.length + T.length = s.length := by rw [← h1]; simp
    rw [qu.l1, qv]
    cases T with
    | nil =>
      rw [if_neg (by simp only [List.length_nil] at hlen; omega), uA, Nat.add_zero, Nat.mod_eq_of_lt hn]
    | cons x T =>
      simp only [List.length_cons] at hlen hk
      have e1 : rd s (D.length : Int) = x := by rw [← h1]; exact yv D x T rfl
      have hx := x.toNat_lt
      have hd : D.length % 4 < 4 := Nat.mod_lt _ (by decide)
      have e2 : jg (D.length : Int) 4 = ((D.length % 4 : Nat) : Int) := jY (b := 4)
      have hb : x.toNat < 256 ^ (D.length % 4 + 1) := by
        have : 256 ^ 1 ≤ 256 ^ (D.length % 4 + 1) := Nat.pow_le_pow_right (by decide) (by omega)
        omega
      rw [if_pos (by omega), zw (by omega), qo, e1, qK, qK, e2, xo (x := ((x.toNat : Nat) : Int)) (by omega) (by omega), ur K _ n D.length hn (by omega) (3 - D.length % 4) K (D.length % 4) x.toNat (by omega) (by omega) hb]
      rw [show ((D.length + 1 : Nat) : Int) = ((D ++ [x]).length : Int) from by simp, ih (D ++ [x]) T _ (by rw [← h1]; simp) (by omega) (Nat.mod_lt _ (by decide)), uA, List.length_append, List.length_singleton]
      congr 2
      omega
theorem uo (K : Nat) (s : List UInt8) (hs : s.length < 140737488355328) (hK : s.length < K) (hK2 : 4 < K) : qu.m K s = .ok ((yw s : Nat) : Int) := by
  have := uq K hK2 s hs K [] s 0 rfl hK (by decide)
  rw [Nat.zero_add] at this
  exact this
end Go.Pn

set_option maxRecDepth 100000
namespace Go.Pn
open Go Go.Sl Go.Pu Go.Mo
abbrev Tb := qb
theorem QE : ∀ a b : List UInt8, (Op.bytesLess a b || a == b) = !Op.bytesLess b a
  | [], [] => rfl
  | [], _ :: _ => rfl
  | _ :: _, [] => rfl
  | x :: a, y :: b => by
    have ih := QE a b
    simp only [Op.bytesLess]
    have hxy : x < y ↔ x.toNat < y.toNat := UInt8.lt_iff_toNat_lt
    have hyx : y < x ↔ y.toNat < x.toNat := UInt8.lt_iff_toNat_lt
    have heq : x = y ↔ x.toNat = y.toNat := UInt8.toNat_inj.symm
    by_cases h1 : x = y
    · subst h1
      have hn : ¬ x < x := by rw [hxy]; omega
      have e : (x :: a == x :: b) = (a == b) := by simp
      rw [e, decide_eq_false hn]
      simp only [beq_self_eq_true, Bool.true_and, Bool.false_or]
      exact ih
    · have e : (x :: a == y :: b) = false := by simp [h1]
      have e1 : (x == y) = false := by simp [h1]
      have e2 : (y == x) = false := by simp; exact fun h => h1 h.symm
      rw [e, e1, e2]
      simp only [Bool.false_and, Bool.or_false]
      by_cases h2 : x < y
      · rw [decide_eq_true h2, decide_eq_false (by rw [hyx]; rw [hxy] at h2; omega)]; rfl
      · have : y < x := by rw [hyx]; rw [hxy] at h2; rw [heq] at h1; omega
        rw [decide_eq_false h2, decide_eq_true this]; rfl
def Zo (x : UInt8) : Bool := decide (32 ≤ x.toNat ∧ x.toNat ≤ 126)
def vl (s : List UInt8) : Bool := s.all Zo && decide (s.length = 4)
theorem Zg {s : List UInt8} (h : vl s = true) : s.length = 4 := by
  unfold vl at h; rw [Bool.and_eq_true] at h; exact of_decide_eq_true h.2
theorem v8 (n : Nat) : ((n : Int) == (4 : Int)) = decide (n = 4) := by
  rw [Bool.eq_iff_iff]; simp only [beq_iff_eq, decide_eq_true_eq]; omega
theorem uN (K : Nat) (s : List UInt8) (hs : s.length ≤ 9223372036854775807) : ∀ (k : Nat) (D T : List UInt8), D ++ T = s → T.length < k →
    zA.l1 K s (s.map yl) k (D.length : Int) = .ok (T.all Zo && decide (s.length = 4)) := by
  intro k
  induction k with
  | zero => intro D T _ h; omega
  | succ k ih =>
    intro D T h1 hk
    have hlen : D.length + T.length = s.length := by rw [← h1]; simp
    rw [zA.l1, qv, List.length_map]
    cases T with
    | nil =>
      rw [if_neg (by simp only [List.length_nil] at hlen; omega), qK, List.all_nil, Bool.true_and, v8]
    | cons x T =>
      simp only [List.length_cons] at hlen hk
      have e1 : rd (s.map yl) (D.length : Int) = yl x := by rw [← h1, List.map_append, List.map_cons]; exact yv _ _ _ (by rw [List.length_map])
      have e3 : qD ((D.length : Int) + 1) = ((D ++ [x]).length : Int) := by rw [qB (by omega) (by omega)]; simp
      have e4 : (decide (yl x < (32 : Int)) || decide (yl x > (126 : Int))) = !Zo x := by
        unfold Zo yl
        rw [Bool.eq_iff_iff]; simp only [Bool.or_eq_true, decide_eq_true_eq, Bool.not_eq_true', decide_eq_false_iff_not]; omega
      rw [if_pos (by omega), zw (by omega), qo, qK, e1, e4, e3, List.all_cons]
      cases hx : Zo x with
      | false => rfl
      | true =>
        rw [Bool.not_true, cond_false, Bool.true_and]
        exact ih (D ++ [x]) T (by rw [← h1]; simp) (by omega)
theorem Qd (K : Nat) (s : List UInt8) (hs : s.length ≤ 9223372036854775807) (hK : s.length < K) : zA.m K s = .ok (vl s) := by
  unfold zA.m
  rw [zN hs, qo, qK]
  exact uN K s hs K [] s rfl hK
theorem Qz (K : Nat) (s : List UInt8) (hs : s.length ≤ 9223372036854775807) : ∀ (k : Nat) (D T : List UInt8), D ++ T = s → T.length < k →
    zc.l1 K s k (D.length : Int) = .ok (T.all Zo && decide (s.length = 4)) := by
  intro k
  induction k with
  | zero => intro D T _ h; omega
  | succ k ih =>
    intro D T h1 hk
    have hlen : D.length + T.length = s.length := by rw [← h1]; simp
    rw [zc.l1, qv]
    cases T with
    | nil =>
      rw [if_neg (by simp only [List.length_nil] at hlen; omega), qK, List.all_nil, Bool.true_and, v8]
    | cons x T =>
      simp only [List.length_cons] at hlen hk
      have e1 : rd s (D.length : Int) = x := by rw [← h1]; exact yv D x T rfl
      have e3 : qD ((D.length : Int) + 1) = ((D ++ [x]).length : Int) := by rw [qB (by omega) (by omega)]; simp
      have e4 : (decide ((x.toNat : Int) < (32 : Int)) || decide ((x.toNat : Int) > (126 : Int))) = !Zo x := by
        unfold Zo
        rw [Bool.eq_iff_iff]; simp only [Bool.or_eq_true, decide_eq_true_eq, Bool.not_eq_true', decide_eq_false_iff_not]; omega
      rw [if_pos (by omega), zw (by omega), qo, e1, e4, e3, List.all_cons]
      cases hx : Zo x with
      | false => rfl
      | true =>
        rw [Bool.not_true, cond_false, Bool.true_and, qK]
        exact ih (D ++ [x]) T (by rw [← h1]; simp) (by omega)
theorem Z0 (K : Nat) (s : List UInt8) (hs : s.length ≤ 9223372036854775807) (hK : s.length < K) : zc.m K s = .ok (vl s) :=
  Qz K s hs K [] s rfl hK
def zT (n : Nat) : Nat := (n + 3) / 4 * 4
theorem QC (x : BitVec 64) : x &&& ~~~ 3#64 = (x >>> 2) <<< 2 := by
  apply BitVec.eq_of_getLsbD_eq
  intro i hi
  rcases i with _ | _ | i
  · simp
  · simp
  · have : (3#64).getLsbD (i + 2) = false := by
      simp only [BitVec.getLsbD_ofNat]
      have : Nat.testBit 3 (i + 2) = false := by
        rw [Nat.testBit_eq_decide_div_mod_eq]
        have : 3 / 2 ^ (i + 2) = 0 := Nat.div_eq_of_lt (by rw [Nat.pow_add]; have := Nat.two_pow_pos i; omega)
        rw [this]; rfl
      rw [this]; simp
    rw [BitVec.getLsbD_and, BitVec.getLsbD_not, BitVec.getLsbD_shiftLeft, BitVec.getLsbD_ushiftRight, show i + 1 + 1 = i + 2 from rfl, this]
    have h2 : decide (i + 2 < 64) = true := decide_eq_true hi
    have h3 : decide (i + 2 < 2) = false := decide_eq_false (by omega)
    rw [h2, h3, show 2 + (i + 2 - 2) = i + 2 by omega]; simp
theorem Z8 {n : Nat} (h : n < 9223372036854775804) : v2 .i64 (n : Int) 3 = ((n / 4 * 4 : Nat) : Int) := by
  show IntKind.i64.wrap ((BitVec.ofInt 64 (n : Int) &&& ~~~ BitVec.ofInt 64 (3 : Int)).toNat : Int) = _
  have e : (BitVec.ofInt 64 (n : Int) &&& ~~~ BitVec.ofInt 64 (3 : Int)).toNat = n / 4 * 4 := by
    rw [yN, show BitVec.ofInt 64 (3 : Int) = 3#64 from rfl, QC]; simp; omega
  rw [e]
  exact qB (by omega) (by omega)
theorem yO (K n : Nat) (h : n < 9223372036854775000) : xc.m K (n : Int) = .ok ((zT n : Nat) : Int) := by
  unfold xc.m zT
  rw [qB (by omega) (by omega), show (n : Int) + 3 = ((n + 3 : Nat) : Int) by omega, Z8 (by omega), qK]
theorem ul (K n : Nat) (h : n < 9223372036854775000) : zz.m K (n : Int) = .ok ((zT n : Nat) : Int) := by
  unfold zz.m zT
  have e : jf .i64 ((n + 3 : Nat) : Int) 4 = (((n + 3) / 4 : Nat) : Int) := v5 (b := 4) (by omega) (by decide)
  rw [qB (x := (n : Int) + 3) (by omega) (by omega), show (n : Int) + 3 = ((n + 3 : Nat) : Int) by omega, e, qB (by omega) (by omega), qK]
  congr 1
theorem w4 : Qr 4 := .inr (.inr (.inl rfl))
theorem w2 : Qr 2 := .inr (.inl rfl)
theorem Qe (K n : Nat) (h : n < 4294967296) (hK : 8 < K) : yL.m K (n : Int) = .ok (yo 4 n) := by
  unfold yL.m
  have := ux K n 4 w4 (by omega) hK
  rw [show ((4 : Nat) : Int) = 4 from rfl] at this
  rw [zW (by omega) (by omega), this, qN.bind_ok]
  unfold yp
  rw [if_pos (by omega)]
theorem Qc (K n : Nat) (h : n < 65536) (hK : 8 < K) : yK.m K (n : Int) = .ok (yo 2 n) := by
  unfold yK.m
  have := ux K n 2 w2 (by omega) hK
  rw [show ((2 : Nat) : Int) = 2 from rfl] at this
  rw [zW (by omega) (by omega), this, qN.bind_ok]
  unfold yp
  rw [if_pos (by omega)]
theorem Xv (K n : Nat) (h : n < 4294967296) (hK : 8 < K) : xa.m K (n : Int) = .ok (yo 4 n) := by
  unfold xa.m
  have := ui K n 4 w4 (by omega) hK
  rw [show ((4 : Nat) : Int) = 4 from rfl] at this
  rw [zW (by omega) (by omega), this, qN.bind_ok]
  unfold yp
  rw [if_pos (by omega)]
theorem ZD (K n : Nat) (h : n < 65536) (hK : 8 < K) : zE.m K (n : Int) = .ok (yo 2 n) := by
  unfold zE.m
  have := ui K n 2 w2 (by omega) hK
  rw [show ((2 : Nat) : Int) = 2 from rfl] at this
  rw [zW (by omega) (by omega), this, qN.bind_ok]
  unfold yp
  rw [if_pos (by omega)]
def x7 (kind n : Nat) : List UInt8 := (((yo 4 kind ++ yo 2 n) ++ yo 2 (16 * 2 ^ n.log2)) ++ yo 2 n.log2) ++ yo 2 (16 * (n - 2 ^ n.log2))
theorem vr (kind n : Nat) : (x7 kind n).length = 12 := by simp [x7, z5]
theorem u2 (K kind n : Nat) (hk : kind < 4294967296) (hn : n ≤ 1000) (hK : 8 < K) : ∀ (k e : Nat), 2 ^ e ≤ n → n < e + k →
    zM.l1 K (kind : Int) (n : Int) k ((2 ^ e : Nat) : Int) (e : Int) = .ok (x7 kind n) ∧ qQ.l1 K (kind : Int) (n : Int) k ((2 ^ e : Nat) : Int) (e : Int) = .ok (x7 kind n) := by
  intro k
  induction k with
  | zero =>
    intro e h1 h2
    have := Nat.lt_two_pow_self (n := e)
    omega
  | succ k ih =>
    intro e h1 h2
    have hlt := Nat.lt_two_pow_self (n := e)
    have e2 : qD ((2 : Int) * ((2 ^ e : Nat) : Int)) = ((2 ^ (e + 1) : Nat) : Int) := by rw [qB (by omega) (by omega), Nat.pow_succ]; omega
    have e2' : qD (((2 ^ e : Nat) : Int) * 2) = ((2 ^ (e + 1) : Nat) : Int) := by rw [qB (by omega) (by omega), Nat.pow_succ]; omega
    have e1 : qD ((e : Int) + 1) = ((e + 1 : Nat) : Int) := by rw [qB (by omega) (by omega)]; omega
    rw [zM.l1, qQ.l1, qv, qv, e2]
    by_cases hc : 2 ^ (e + 1) ≤ n
    · rw [if_pos (by omega), if_pos (by omega), qK, qK, qK, qK, e1, e2']
      exact ih (e + 1) hc (by omega)
    · rw [if_neg (by omega), if_neg (by omega)]
      have hlog : n.log2 = e := (Nat.log2_eq_iff (by omega)).2 ⟨h1, by omega⟩
      have e3 : wr .i64 (kind : Int) = (kind : Int) := z3 (by omega) (by omega)
      have e4 : qD ((16 : Int) * ((2 ^ e : Nat) : Int)) = ((16 * 2 ^ e : Nat) : Int) := by rw [qB (by omega) (by omega)]; omega
      have e5 : qD ((16 : Int) * qD ((n : Int) - ((2 ^ e : Nat) : Int))) = ((16 * (n - 2 ^ e) : Nat) : Int) := by
        rw [qB (x := (n : Int) - _) (by omega) (by omega), qB (by omega) (by omega)]; omega
      unfold x7
      rw [hlog]
      constructor
      · rw [e3, Qe K kind hk hK, qN.bind_ok, Qc K n (by omega) hK, qN.bind_ok, zN (by simp [z5]), qo, e4, Qc K _ (by omega) hK, qN.bind_ok, zN (by simp [z5]), qo,
          Qc K e (by omega) hK, qN.bind_ok, zN (by simp [z5]), qo, e5, Qc K _ (by omega) hK, qN.bind_ok, zN (by simp [z5]), qo, qK]
      · unfold qQ.j2
        rw [e3, Xv K kind hk hK, qN.bind_ok, ZD K n (by omega) hK, qN.bind_ok, zN (by simp [z5]), qo, e4, ZD K _ (by omega) hK, qN.bind_ok, zN (by simp [z5]), qo,
          ZD K e (by omega) hK, qN.bind_ok, zN (by simp [z5]), qo, e5, ZD K _ (by omega) hK, qN.bind_ok, zN (by simp [z5]), qo, qK]
theorem uf (K kind n : Nat) (hk : kind < 4294967296) (h1 : 1 ≤ n) (hn : n ≤ 1000) (hK : 1000 < K) : zM.m K (kind : Int) (n : Int) = .ok (x7 kind n) :=
  (u2 K kind n hk hn (by omega) K 0 (by simpa using h1) (by omega)).1
theorem ZE (K kind n : Nat) (hk : kind < 4294967296) (h1 : 1 ≤ n) (hn : n ≤ 1000) (hK : 1000 < K) : qQ.m K (kind : Int) (n : Int) = .ok (x7 kind n) :=
  (u2 K kind n hk hn (by omega) K 0 (by simpa using h1) (by omega)).2
def Xu (p : Option (List UInt8)) (t : Tb) : Bool := vl t.Tag_ && ((match p with | none => true | some q => Op.bytesLess q t.Tag_) && decide (t.Data_.length ≤ 16777216))
def QY : Option (List UInt8) → List Tb → Bool
  | _, [] => true
  | p, t :: r => Xu p t && QY (some t.Tag_) r
def uv : List Tb → Nat
  | [] => 0
  | t :: r => zT t.Data_.length + uv r
def Qa (D : List Tb) : Option (List UInt8) := D.getLast?.map (·.Tag_)
theorem vC (D : List Tb) (t : Tb) : Qa (D ++ [t]) = some t.Tag_ := by simp [Qa]
theorem Zr (K : Nat) (l : List Tb) (hl : l.length ≤ 100000) (hb : ∀ t ∈ l, t.Tag_.length ≤ 9223372036854775807 ∧ t.Tag_.length < K) : ∀ (k : Nat) (D T : List Tb) (all : Nat), D ++ T = l → T.length < k → all + uv T < 1099511627776 →
    qS.l1 K l k (all : Int) (D.length : Int) = .ok (QY (Qa D) T && ((decide (0 < l.length) && decide (l.length ≤ 1000)) && decide (all + uv T < 1073741824))) := by
  intro k
  induction k with
  | zero => intro D T all _ h; omega
  | succ k ih =>
    intro D T all h1 hk hall
    have hlen : D.length + T.length = l.length := by rw [← h1]; simp
    rw [qS.l1, qv]
    cases T with
    | nil =>
      rw [if_neg (by simp only [List.length_nil] at hlen; omega)]
      unfold qS.j3
      rw [qK, QY, Bool.true_and, uv, Nat.add_zero]
      congr 1
      rw [show decide ((l.length : Int) > 0) = decide (0 < l.length) from by rw [decide_eq_decide]; omega, show decide ((l.length : Int) ≤ 1000) = decide (l.length ≤ 1000) from by rw [decide_eq_decide]; omega,
        show decide ((all : Int) < 1073741824) = decide (all < 1073741824) from by rw [decide_eq_decide]; omega]
    | cons t T =>
      simp only [List.length_cons] at hlen hk
      rw [uv] at hall
      have e1 : rd l (D.length : Int) = t := by rw [← h1]; exact yv D t T rfl
      have ht := hb t (by rw [← h1]; simp)
      have e3 : qD ((D.length : Int) + 1) = ((D ++ [t]).length : Int) := by rw [qB (by omega) (by omega)]; simp
      have hup : t.Data_.length ≤ zT t.Data_.length := by unfold zT; omega
      have next : qS.j2 K (qS.l1 K l k) l (all : Int) (D.length : Int) false = .ok (QY (some t.Tag_) T && ((decide (0 < l.length) && decide (l.length ≤ 1000)) && decide (all + uv (t :: T) < 1073741824))) := by
        unfold qS.j2
        rw [cond_false, e1, yO K _ (by omega), qN.bind_ok, qB (by omega) (by omega), qK, e3, show (all : Int) + ((zT t.Data_.length : Nat) : Int) = ((all + zT t.Data_.length : Nat) : Int) by omega,
          ih (D ++ [t]) T _ (by rw [← h1]; simp) (by omega) (by omega), vC, uv, Nat.add_assoc]
      have stop : ∀ g, qS.j2 K g l (all : Int) (D.length : Int) true = .ok false := fun g => rfl
      have eD : decide (((t.Data_.length : Nat) : Int) > 16777216) = !decide (t.Data_.length ≤ 16777216) := by
        rw [Bool.eq_iff_iff]; simp only [Bool.not_eq_true', decide_eq_true_eq, decide_eq_false_iff_not]; omega
      rw [if_pos (by omega), zw (by omega), qo, e1, Qd K _ ht.1 ht.2, qN.bind_ok, eD, QY]
      unfold Xu
      cases htag : vl t.Tag_ with
      | false => rw [cond_false, stop, Bool.false_and, Bool.false_and, Bool.false_and]
      | true =>
        rw [cond_true, qv, Bool.true_and]
        have dcase : ∀ b : Bool, qS.j2 K (qS.l1 K l k) l (all : Int) (D.length : Int) (!b) = .ok ((b && QY (some t.Tag_) T) && ((decide (0 < l.length) && decide (l.length ≤ 1000)) && decide (all + uv (t :: T) < 1073741824))) := by
          intro b
          cases b with
          | false => rw [Bool.not_false, stop, Bool.false_and, Bool.false_and]
          | true => rw [Bool.not_true, next, Bool.true_and]
        rcases List.eq_nil_or_concat D with rfl | ⟨D', q, rfl⟩
        · rw [if_neg (by simp), dcase]; rfl
        · have e4 : qD (((D'.concat q).length : Int) - 1) = (D'.length : Int) := by rw [qB (by omega) (by omega)]; simp
          have e5 : rd l (D'.length : Int) = q := by rw [← h1]; simp only [List.concat_eq_append, List.append_assoc, List.singleton_append]; exact yv D' q _ rfl
          have hi : (D'.concat q).length = D'.length + 1 := by simp
          rw [if_pos (by rw [hi]; omega), e4, zw (by rw [hi] at hlen; omega), qo, e5, yA]
          have ep : Qa (D'.concat q) = some q.Tag_ := by rw [List.concat_eq_append]; exact vC D' q
          rw [ep]
          dsimp only
          cases hless : Op.bytesLess q.Tag_ t.Tag_ with
          | false => rw [cond_false, stop, Bool.false_and, Bool.false_and, Bool.false_and]
          | true => rw [cond_true, dcase, Bool.true_and]
theorem Q1 (K : Nat) (l : List Tb) (hl : l.length ≤ 100000) (hb : ∀ t ∈ l, t.Tag_.length ≤ 9223372036854775807 ∧ t.Tag_.length < K) (hs : uv l < 1073741824) (hK : l.length < K) :
    qS.m K l = .ok (QY none l && (decide (0 < l.length) && decide (l.length ≤ 1000))) := by
  have := Zr K l hl hb K [] l 0 rfl hK (by omega)
  rw [Nat.zero_add, decide_eq_true hs, Bool.and_true] at this
  exact this
def uT : List Tb → Nat
  | [] => 0
  | t :: r => t.Data_.length + uT r
theorem Zf (K : Nat) (l : List Tb) (hl : l.length ≤ 1001) : ∀ (k : Nat) (D T : List Tb) (n : Nat), D ++ T = l → T.length < k → n ≤ 105000 →
    ∃ b, zp.l1 K l k (n : Int) (D.length : Int) = .ok b ∧ (b = true → n + uT T ≤ 105000 ∧ ∀ t ∈ T, t.Data_.length ≤ 5000) := by
  intro k
  induction k with
  | zero => intro D T n _ h; omega
  | succ k ih =>
    intro D T n h1 hk hn
    have hlen : D.length + T.length = l.length := by rw [← h1]; simp
    rw [zp.l1, qv]
    cases T with
    | nil =>
      rw [if_neg (by simp only [List.length_nil] at hlen; omega)]
      exact ⟨true, rfl, fun _ => ⟨by simpa [uT] using hn, by simp⟩⟩
    | cons t T =>
      simp only [List.length_cons] at hlen hk
      have e1 : rd l (D.length : Int) = t := by rw [← h1]; exact yv D t T rfl
      have e3 : qD ((D.length : Int) + 1) = ((D ++ [t]).length : Int) := by rw [qB (by omega) (by omega)]; simp
      rw [if_pos (by omega), zw (by omega), qo, e1, jb, qv, qv]
      by_cases h5 : t.Data_.length > 5000
      · rw [if_pos (by omega)]; exact ⟨false, rfl, fun h => by cases h⟩
      · rw [if_neg (by omega)]
        by_cases h6 : n > 100000
        · rw [if_pos (by omega)]; exact ⟨false, rfl, fun h => by cases h⟩
        · rw [if_neg (by omega), qK, qK, e3, qB (by omega) (by omega), show (n : Int) + ((t.Data_.length : Nat) : Int) = ((n + t.Data_.length : Nat) : Int) by omega]
          obtain ⟨b, hb, h⟩ := ih (D ++ [t]) T (n + t.Data_.length) (by rw [← h1]; simp) (by omega) (by omega)
          refine ⟨b, hb, fun hbt => ?_⟩
          obtain ⟨q1, q2⟩ := h hbt
          refine ⟨by rw [uT]; omega, fun u hu => ?_⟩
          rcases List.mem_cons.1 hu with rfl | hu
          · omega
          · exact q2 u hu
theorem Qj : ∀ l : List Tb, uv l ≤ uT l + 3 * l.length
  | [] => by simp [uv]
  | t :: r => by
    have := Qj r
    rw [uv, uT, List.length_cons]; unfold zT; omega
theorem XH (K : Nat) (l : List Tb) (hK : 1002 ≤ K) : ∃ b, zp.m K l = .ok b ∧ (b = true → l.length ≤ 1001 ∧ uT l ≤ 105000 ∧ uv l ≤ 108003 ∧ ∀ t ∈ l, t.Data_.length ≤ 5000) := by
  unfold zp.m
  rw [qv]
  by_cases h : l.length > 1001
  · rw [if_pos (by omega)]; exact ⟨false, rfl, fun h => by cases h⟩
  · rw [if_neg (by omega)]
    obtain ⟨b, hb, h2⟩ := Zf K l (by omega) K [] l 0 rfl (by omega) (by omega)
    refine ⟨b, hb, fun hbt => ?_⟩
    obtain ⟨q1, q2⟩ := h2 hbt
    have := Qj l
    exact ⟨by omega, by omega, by omega, q2⟩
theorem ZJ (K : Nat) (l : List Tb) (hl : l.length ≤ 100000) : ∀ (k : Nat) (D T : List Tb), D ++ T = l → T.length < k → qW.l1 K l l k (D.length : Int) = .ok true := by
  intro k
  induction k with
  | zero => intro D T _ h; omega
  | succ k ih =>
    intro D T h1 hk
    have hlen : D.length + T.length = l.length := by rw [← h1]; simp
    rw [qW.l1, qv]
    cases T with
    | nil => rw [if_neg (by simp only [List.length_nil] at hlen; omega)]
    | cons t T =>
      simp only [List.length_cons] at hlen hk
      have e3 : qD ((D.length : Int) + 1) = ((D ++ [t]).length : Int) := by rw [qB (by omega) (by omega)]; simp
      rw [if_pos (by omega), zw (by omega), qo, qo]
      simp only [beq_self_eq_true, Bool.and_self, Bool.not_true, cond_false, qK]
      rw [e3]
      exact ih (D ++ [t]) T (by rw [← h1]; simp) (by omega)
theorem same (K : Nat) (l : List Tb) (hl : l.length ≤ 100000) (hK : l.length < K) : qW.m K l l = .ok true := by
  unfold qW.m
  rw [show ((l.length : Int) != (l.length : Int)) = false from by simp, cond_false]
  exact ZJ K l hl K [] l rfl hK
end Go.Pn

set_option maxRecDepth 100000
namespace Go.Pn
open Go Go.Sl Go.Pu Go.Mo
def ZH (at_ : Nat) (t : Tb) : List UInt8 := ((t.Tag_ ++ yo 4 (yw t.Data_)) ++ yo 4 at_) ++ yo 4 t.Data_.length
def ZC (t : Tb) : List UInt8 := t.Data_ ++ List.replicate (zT t.Data_.length - t.Data_.length) 0
theorem uc (t : Tb) : (ZC t).length = zT t.Data_.length := by simp [ZC]; unfold zT; omega
def vd : Nat → List Tb → List UInt8
  | _, [] => []
  | at_, t :: r => ZH at_ t ++ vd (at_ + zT t.Data_.length) r
def jT : List Tb → List UInt8
  | [] => []
  | t :: r => ZC t ++ jT r
theorem Zb {at_ : Nat} {t : Tb} (h : t.Tag_.length = 4) : (ZH at_ t).length = 16 := by simp [ZH, z5, h]
def Xc (kind : Nat) (l : List Tb) : List UInt8 := x7 kind l.length ++ vd (12 + 16 * l.length) l ++ jT l
theorem ub : ∀ (p : Option (List UInt8)) (l : List Tb), QY p l = true → ∀ t ∈ l, vl t.Tag_ = true ∧ t.Data_.length ≤ 16777216
  | _, [], _ => by simp
  | p, t :: r, h => by
    rw [QY, Bool.and_eq_true] at h
    intro u hu
    rcases List.mem_cons.1 hu with rfl | hu
    · have h2 := h.1
      unfold Xu at h2
      simp only [Bool.and_eq_true, decide_eq_true_eq] at h2
      exact ⟨h2.1, h2.2.2⟩
    · exact ub _ r h.2 u hu
theorem jG (a b : List UInt8) : a.map yl ++ b.map yl = (a ++ b).map yl := by rw [List.map_append]
theorem Xy (n : Nat) (h : n ≤ 1000) : Q8 ([0] : List UInt8) (n : Int) = .ok (List.replicate n 0) := by
  unfold Q8
  rw [show (decide (0 ≤ (n : Int)) && decide ((n : Int) ≤ 9223372036854775807) && decide (([0] : List UInt8).length * (n : Int).toNat ≤ 140737488355328)) = true from by
    simp only [Bool.and_eq_true, decide_eq_true_eq, List.length_singleton, Int.toNat_natCast]; omega, qo, Int.toNat_natCast]
  congr 1
  induction n with
  | zero => rfl
  | succ n ih => rw [List.replicate_succ, List.flatten_cons, ih (by omega)]; rfl
theorem vL (K kind : Nat) (l : List Tb) (hk : kind < 4294967296) (hl : 1 ≤ l.length ∧ l.length ≤ 1000) (htag : ∀ t ∈ l, t.Tag_.length = 4) (hd : ∀ t ∈ l, t.Data_.length < K) (hK : 1000 < K) :
    ∀ (k : Nat) (D T : List Tb) (R B : List UInt8), D ++ T = l → T.length < k → B.length + uv T < 1073741824 → R.length = 16 * D.length →
    qX.l2 K (kind : Int) l ((12 + 16 * l.length : Nat) : Int) k (R.map yl) (B.map yl) (D.length : Int) =
      .ok (x7 kind l.length ++ (R ++ vd (12 + 16 * l.length + B.length) T) ++ (B ++ jT T), 0) := by
  intro k
  induction k with
  | zero => intro D T _ _ _ h; omega
  | succ k ih =>
    intro D T R B h1 hk2 hB hR
    have hlen : D.length + T.length = l.length := by rw [← h1]; simp
    rw [qX.l2, qv]
    cases T with
    | nil =>
      rw [if_neg (by simp only [List.length_nil] at hlen; omega)]
      simp only [List.length_nil] at hlen
      unfold qX.j3 zr.m
      rw [uf K kind l.length hk hl.1 hl.2 hK, qN.bind_ok, qK, qN.bind_ok, x8, zN (by rw [vr]; omega), qo, qK, qN.bind_ok, x8,
        zN (by rw [List.length_append, vr]; omega), qo, qK, vd, jT, List.append_nil, List.append_nil]
    | cons t T =>
      simp only [List.length_cons] at hlen hk2
      rw [uv] at hB
      have e1 : rd l (D.length : Int) = t := by rw [← h1]; exact yv D t T rfl
      have htl := htag t (by rw [← h1]; simp)
      have hdl := hd t (by rw [← h1]; simp)
      have hup : t.Data_.length ≤ zT t.Data_.length ∧ zT t.Data_.length ≤ t.Data_.length + 3 := by unfold zT; omega
      have hw := vg t.Data_
      have e3 : qD ((D.length : Int) + 1) = ((D ++ [t]).length : Int) := by rw [qB (by omega) (by omega)]; simp
      have eat : qD (((12 + 16 * l.length : Nat) : Int) + (((B.map yl).length : Nat) : Int)) = ((12 + 16 * l.length + B.length : Nat) : Int) := by rw [List.length_map, qB (by omega) (by omega)]; omega
      have epd : qD (((zT t.Data_.length : Nat) : Int) - ((t.Data_.length : Nat) : Int)) = ((zT t.Data_.length - t.Data_.length : Nat) : Int) := by rw [qB (by omega) (by omega)]; omega
      have lw : ∀ A, (yo 4 A).length = 4 := z5 4
      rw [if_pos (by omega), zw (by omega), qo, e1, vD K _ (by omega) hdl, qN.bind_ok, z3 (x := ((yw t.Data_ : Nat) : Int)) (by omega) (by omega), Qe K _ hw (by omega), qN.bind_ok, zN (by rw [htl, lw]; omega), qo]
      unfold zS.m zi.m strings_Repeat.m
      rw [qK, qN.bind_ok, eat, Qe K _ (by omega) (by omega), qN.bind_ok, zN (by simp only [List.length_append, htl, lw]; omega), qo, Qe K _ (by omega) (by omega), qN.bind_ok, zN (by simp only [List.length_append, htl, lw]; omega), qo,
        zZ (by simp only [List.length_append, List.length_map, htl, lw]; omega), qo, qK, qK, qN.bind_ok]
      dsimp only
      rw [yO K _ (by omega), qN.bind_ok, epd, Xy _ (by omega), qN.bind_ok, qN.bind_ok, zN (by rw [List.length_replicate]; omega), qo, zZ (by simp only [List.length_append, List.length_map, List.length_replicate]; omega), qo, qK, qK, qN.bind_ok]
      dsimp only
      rw [e3, jG, jG, show ((t.Tag_ ++ yo 4 (yw t.Data_)) ++ yo 4 (12 + 16 * l.length + B.length)) ++ yo 4 t.Data_.length = ZH (12 + 16 * l.length + B.length) t from rfl,
        show t.Data_ ++ List.replicate (zT t.Data_.length - t.Data_.length) 0 = ZC t from rfl, ih (D ++ [t]) T _ _ (by rw [← h1]; simp) (by omega) (by rw [List.length_append, uc]; omega) (by rw [List.length_append, Zb htl, hR, List.length_append, List.length_singleton]; omega),
        vd, jT, List.length_append, uc, List.append_assoc R, List.append_assoc B, Nat.add_assoc (12 + 16 * l.length)]
theorem QS (kind : Nat) : (((kind : Int) == (65536 : Int)) || ((kind : Int) == (1330926671 : Int))) = decide (kind = 65536 ∨ kind = 1330926671) := by
  rw [Bool.eq_iff_iff]; simp only [Bool.or_eq_true, beq_iff_eq, decide_eq_true_eq]; omega
def uV (kind : Nat) (l : List Tb) : List UInt8 × Int :=
  if (kind = 65536 ∨ kind = 1330926671) ∧ QY none l = true ∧ 0 < l.length ∧ l.length ≤ 1000 then (Xc kind l, 0) else ([], 1)
theorem Qv (K kind : Nat) (l : List Tb) (hk : kind < 4294967296) (hl : l.length ≤ 100000) (hb : ∀ t ∈ l, t.Tag_.length ≤ 9223372036854775807 ∧ t.Tag_.length < K) (hs : uv l < 1073741824) (hd : ∀ t ∈ l, t.Data_.length < K) (hK : 100000 < K) :
    qX.m K (kind : Int) l = .ok (uV kind l) := by
  unfold qX.m xt.m uV
  rw [QS, qK, qN.bind_ok]
  have dl : decide ((l.length : Int) > 1000) = !decide (l.length ≤ 1000) := by rw [Bool.eq_iff_iff]; simp only [Bool.not_eq_true', decide_eq_true_eq, decide_eq_false_iff_not]; omega
  rw [dl]
  by_cases h1 : kind = 65536 ∨ kind = 1330926671
  · rw [decide_eq_true h1, Bool.not_true, Bool.false_or, yA, qv]
    by_cases h2 : l.length ≤ 1000
    · rw [if_pos h2, Q1 K l hl hb hs (by omega), qN.bind_ok, decide_eq_true h2, Bool.and_true]
      unfold qX.j1
      cases h3 : QY none l with
      | false => rw [if_neg (by simp)]; rfl
      | true =>
        by_cases h4 : 0 < l.length
        · rw [decide_eq_true h4, if_pos ⟨h1, rfl, h4, h2⟩, Bool.true_and, Bool.not_true, cond_false, qK]
          have ef : qD ((12 : Int) + qD ((16 : Int) * (l.length : Int))) = ((12 + 16 * l.length : Nat) : Int) := by rw [qB (x := 16 * _) (by omega) (by omega), qB (by omega) (by omega)]; omega
          have ht := ub none l h3
          have := vL K kind l hk ⟨h4, h2⟩ (fun t h => Zg (ht t h).1) hd (by omega) K [] l [] [] rfl (by omega) (by simpa using hs) rfl
          rw [ef]
          exact this
        · rw [decide_eq_false h4, if_neg (fun h => h4 h.2.2.1)]; rfl
    · rw [if_neg h2, if_neg (fun h => h2 h.2.2.2)]; rfl
  · rw [decide_eq_false h1, if_neg (fun h => h1 h.1)]; rfl
end Go.Pn

set_option maxRecDepth 100000
namespace Go.Pn
open Go Go.Sl Go.Pu Go.Mo
abbrev Sp := qe
structure QB (S : List Sp) : Prop where
  each : ∀ x ∈ S, 0 ≤ x.Lo_ ∧ x.Lo_ < x.Hi_ ∧ x.Hi_ < 2305843009213693952
  srt : S.Pairwise fun x y => x.Hi_ ≤ y.Lo_
def yD (S : List Sp) (lo hi : Int) : List Sp := S.takeWhile (fun x => decide (x.Hi_ ≤ lo)) ++ ⟨lo, hi⟩ :: S.dropWhile (fun x => decide (x.Hi_ ≤ lo))
def xj (S : List Sp) (lo hi : Int) : Bool := S.any fun x => decide (lo < x.Hi_) && decide (x.Lo_ < hi)
theorem v4 (S : List Sp) (lo hi : Int) : (yD S lo hi).length = S.length + 1 := by
  have := congrArg List.length (List.takeWhile_append_dropWhile (p := fun x : Sp => decide (x.Hi_ ≤ lo)) (l := S))
  rw [List.length_append] at this
  unfold yD
  rw [List.length_append, List.length_cons]; omega
theorem QP {S : List Sp} {lo hi : Int} {x : Sp} : x ∈ yD S lo hi ↔ x = ⟨lo, hi⟩ ∨ x ∈ S := by
  have e := List.takeWhile_append_dropWhile (p := fun x : Sp => decide (x.Hi_ ≤ lo)) (l := S)
  unfold yD
  constructor
  · intro h
    rcases List.mem_append.1 h with h | h
    · right; rw [← e]; exact List.mem_append_left _ h
    · rcases List.mem_cons.1 h with h | h
      · exact .inl h
      · right; rw [← e]; exact List.mem_append_right _ h
  · rintro (rfl | h)
    · exact List.mem_append_right _ (List.mem_cons_self ..)
    · rw [← e] at h
      rcases List.mem_append.1 h with h | h
      · exact List.mem_append_left _ h
      · exact List.mem_append_right _ (List.mem_cons_of_mem _ h)
theorem Z9 {S : List Sp} (h : QB S) (lo : Int) : ∃ A B, S = A ++ B ∧ (∀ x ∈ A, x.Hi_ ≤ lo) ∧ (∀ x ∈ B, lo < x.Hi_) ∧ ∀ hi, yD S lo hi = A ++ ⟨lo, hi⟩ :: B := by
  refine ⟨S.takeWhile (fun x => decide (x.Hi_ ≤ lo)), S.dropWhile (fun x => decide (x.Hi_ ≤ lo)), List.takeWhile_append_dropWhile.symm, ?_, ?_, fun _ => rfl⟩
  · intro x hx
    have : ∀ (l : List Sp), x ∈ l.takeWhile (fun x => decide (x.Hi_ ≤ lo)) → x.Hi_ ≤ lo := by
      intro l
      induction l with
      | nil => intro h; simp at h
      | cons y l ih =>
        intro hm
        rw [List.takeWhile_cons] at hm
        cases hy : decide (y.Hi_ ≤ lo) with
        | false => rw [hy] at hm; simp at hm
        | true =>
          rw [hy] at hm
          rcases List.mem_cons.1 hm with rfl | hm
          · exact of_decide_eq_true hy
          · exact ih hm
    exact this S hx
  · have hs := h.srt
    have he := h.each
    clear h
    induction S with
    | nil => intro x hx; simp at hx
    | cons y S ih =>
      rw [List.pairwise_cons] at hs
      intro x hx
      rw [List.dropWhile_cons] at hx
      cases hy : decide (y.Hi_ ≤ lo) with
      | false =>
        rw [hy] at hx
        have hy2 : ¬ y.Hi_ ≤ lo := of_decide_eq_false hy
        rcases List.mem_cons.1 hx with rfl | hx
        · omega
        · have h1 := hs.1 x hx
          have h2 := he x (List.mem_cons_of_mem _ hx)
          omega
      | true =>
        rw [hy] at hx
        exact ih hs.2 (fun z hz => he z (List.mem_cons_of_mem _ hz)) x hx
theorem QB.ins {S : List Sp} (h : QB S) {lo hi : Int} (h0 : 0 ≤ lo) (h1 : lo < hi) (h2 : hi < 2305843009213693952) (hc : xj S lo hi = false) : QB (yD S lo hi) := by
  obtain ⟨A, B, hS, hA, hB, he⟩ := Z9 h lo
  have hno : ∀ x ∈ S, ¬ (lo < x.Hi_ ∧ x.Lo_ < hi) := by
    intro x hx hh
    have : xj S lo hi = true := List.any_eq_true.2 ⟨x, hx, by simp only [Bool.and_eq_true, decide_eq_true_eq]; exact hh⟩
    rw [this] at hc; cases hc
  refine ⟨fun x hx => ?_, ?_⟩
  · rcases QP.1 hx with rfl | hx
    · exact ⟨h0, h1, h2⟩
    · exact h.each x hx
  · rw [he hi]
    have hs := h.srt
    rw [hS] at hs
    obtain ⟨p1, p2, p3⟩ := List.pairwise_append.1 hs
    refine List.pairwise_append.2 ⟨p1, List.pairwise_cons.2 ⟨fun y hy => ?_, p2⟩, fun x hx y hy => ?_⟩
    · have q1 := hB y hy
      have q2 := hno y (by rw [hS]; exact List.mem_append_right _ hy)
      show hi ≤ y.Lo_
      omega
    · rcases List.mem_cons.1 hy with rfl | hy
      · exact hA x hx
      · exact p3 x hx y hy
abbrev It := qa
theorem Q5 {its : List It} {i : Nat} (h : i < its.length) : (rd its (i : Int)).span_ = (its.map (·.span_))[i]'(by simpa using h) := by
  rw [Q6 h, List.getElem_map]
theorem Zs (K : Nat) (its : List It) (S A B : List Sp) (hS : its.map (·.span_) = S) (hAB : S = A ++ B) (lo : Int) (hA : ∀ x ∈ A, x.Hi_ ≤ lo) (hB : ∀ x ∈ B, lo < x.Hi_) (hl : its.length ≤ 1000000) :
    ∀ (k a b : Nat), a ≤ A.length → A.length ≤ b → b ≤ its.length → b - a < k → qx.l1 K ⟨its⟩ lo k (a : Int) (b : Int) = .ok (A.length : Int) := by
  intro k
  induction k with
  | zero => intro a b _ _ _ h; omega
  | succ k ih =>
    intro a b h1 h2 h3 h4
    rw [qx.l1, qv]
    by_cases hlt : a < b
    · have em : jf .i64 (qD ((a : Int) + (b : Int))) 2 = (((a + b) / 2 : Nat) : Int) := by
        rw [qB (by omega) (by omega), show (a : Int) + (b : Int) = ((a + b : Nat) : Int) by omega]
        exact v5 (b := 2) (by omega) (by decide)
      have hm : (a + b) / 2 < its.length := by omega
      have hml : (a + b) / 2 < (its.map (·.span_)).length := by simpa using hm
      rw [if_pos (by omega), em, qK]
      unfold zb.m
      dsimp only
      rw [zw hm, qo, qK, qN.bind_ok, Q5 hm, qv]
      by_cases hc : (a + b) / 2 < A.length
      · have hx : (its.map (·.span_))[(a + b) / 2] ∈ A := by
          have : (its.map (·.span_))[(a + b) / 2]? = A[(a + b) / 2]? := by rw [hS, hAB, List.getElem?_append_left hc]
          rw [List.getElem?_eq_getElem hml, List.getElem?_eq_getElem hc] at this
          rw [Option.some.inj this]; exact List.getElem_mem _
        have := hA _ hx
        rw [if_neg (by omega), qB (by omega) (by omega), qK, show (((a + b) / 2 : Nat) : Int) + 1 = (((a + b) / 2 + 1 : Nat) : Int) by omega]
        exact ih _ _ (by omega) h2 h3 (by omega)
      · have hx : (its.map (·.span_))[(a + b) / 2] ∈ B := by
          have h5 : (its.map (·.span_))[(a + b) / 2]? = B[(a + b) / 2 - A.length]? := by rw [hS, hAB, List.getElem?_append_right (by omega)]
          rw [List.getElem?_eq_getElem hml] at h5
          exact List.mem_of_getElem? h5.symm
        have := hB _ hx
        rw [if_pos (by omega)]
        exact ih _ _ h1 (by omega) (by omega) (by omega)
    · rw [if_neg (by omega), show a = A.length by omega]
theorem Q2 (K : Nat) (its : List It) (S A B : List Sp) (hS : its.map (·.span_) = S) (hAB : S = A ++ B) (lo : Int) (hA : ∀ x ∈ A, x.Hi_ ≤ lo) (hB : ∀ x ∈ B, lo < x.Hi_) (hl : its.length ≤ 1000000) (hK : its.length < K) :
    qx.m K ⟨its⟩ lo = .ok (A.length : Int) := by
  unfold qx.m q7.m
  rw [qN.bind_ok, qK]
  have h1 := congrArg List.length hS
  have h2 := congrArg List.length hAB
  rw [List.length_map] at h1
  rw [List.length_append] at h2
  exact Zs K its S A B hS hAB lo hA hB hl K 0 its.length (by omega) (by omega) (Nat.le_refl _) (by omega)
theorem jR {lo hi : Int} (h0 : 0 ≤ lo) (h1 : lo < hi) (h2 : hi < 2305843009213693952) : (((decide (lo ≥ (0 : Int))) && (decide (lo < hi))) && (decide (hi ≤ (4611686018427387904 : Int)))) = true := by
  simp only [Bool.and_eq_true, decide_eq_true_eq]; omega
theorem Qb (K : Nat) (its : List It) (S : List Sp) (hS : its.map (·.span_) = S) (hO : QB S) (lo hi : Int) (tag : List UInt8) (h0 : 0 ≤ lo) (h1 : lo < hi) (h2 : hi < 2305843009213693952) (hl : its.length ≤ 100000) (hK : its.length < K) :
    (xj S lo hi = true ∧ zd.m K ⟨its⟩ lo hi tag = .ok (5, its)) ∨
    (xj S lo hi = false ∧ ∃ its', its'.map (·.span_) = yD S lo hi ∧ zd.m K ⟨its⟩ lo hi tag = .ok (0, its')) := by
  obtain ⟨A, B, hAB, hA, hB, hins⟩ := Z9 hO lo
  have hf := Q2 K its S A B hS hAB lo hA hB (by omega) hK
  have hlS : its.length = S.length := by rw [← hS, List.length_map]
  have hlAB : S.length = A.length + B.length := by rw [hAB, List.length_append]
  have hcl : qp.m K ⟨its⟩ lo hi = .ok (xj S lo hi) := by
    unfold qp.m zU.m q7.m qp.j1 qp.j2 q7.m
    rw [hf, qN.bind_ok, jR h0 h1 h2, qK, qN.bind_ok, cond_true, qN.bind_ok]
    dsimp only
    cases B with
    | nil =>
      rw [decide_eq_false (by simp only [List.length_nil] at hlAB; omega), cond_false]
      congr 1
      symm
      rw [← Bool.not_eq_true]
      intro h
      obtain ⟨x, hx, h⟩ := List.any_eq_true.1 h
      simp only [Bool.and_eq_true, decide_eq_true_eq] at h
      rw [hAB, List.append_nil] at hx
      have := hA x hx
      omega
    | cons b B =>
      simp only [List.length_cons] at hlAB
      have hr : (rd its (A.length : Int)).span_ = b := by
        rw [Q5 (by omega)]
        have : (its.map (·.span_))[A.length]? = some b := by rw [hS, hAB]; simp
        rw [List.getElem?_eq_getElem (by rw [List.length_map]; omega)] at this
        exact Option.some.inj this
      rw [decide_eq_true (by omega), cond_true, qN.bind_ok, zw (by omega), qo, hr]
      congr 1
      rw [Bool.eq_iff_iff, decide_eq_true_eq]
      have hb := hB b (by simp)
      constructor
      · intro h
        exact List.any_eq_true.2 ⟨b, by rw [hAB]; simp, by simp only [Bool.and_eq_true, decide_eq_true_eq]; omega⟩
      · intro h
        obtain ⟨x, hx, h⟩ := List.any_eq_true.1 h
        simp only [Bool.and_eq_true, decide_eq_true_eq] at h
        rw [hAB] at hx
        rcases List.mem_append.1 hx with hx | hx
        · have := hA x hx; omega
        · rcases List.mem_cons.1 hx with rfl | hx
          · exact h.2
          · have hs := hO.srt
            rw [hAB] at hs
            have h3 := (List.pairwise_cons.1 (List.pairwise_append.1 hs).2.1).1 x hx
            have h4 := hO.each b (by rw [hAB]; simp)
            omega
  unfold zd.m zU.m
  rw [jR h0 h1 h2, qK, qN.bind_ok, Bool.not_true, qK, cond_false, hcl, qN.bind_ok, hf, qN.bind_ok]
  cases xj S lo hi with
  | true => exact .inl ⟨rfl, rfl⟩
  | false =>
    refine .inr ⟨rfl, its.take A.length ++ [⟨⟨lo, hi⟩, tag⟩] ++ its.drop A.length, ?_, ?_⟩
    · rw [List.map_append, List.map_append, List.map_take, List.map_drop, hS, hAB, List.take_left, List.drop_left, ← hAB, hins hi]; simp
    · unfold qy.m QO
      dsimp only
      rw [cond_false, show (decide (0 ≤ (A.length : Int)) && decide ((A.length : Int) ≤ (its.length : Int)) && room (its.length + [(⟨⟨lo, hi⟩, tag⟩ : It)].length) 32) = true from by
        rw [decide_eq_true (by omega), decide_eq_true (by omega), Bool.true_and, Bool.true_and, zZ (by rw [List.length_singleton]; omega)], qo, Int.toNat_natCast]
      rfl
theorem uk (K : Nat) (S : List Sp) (X : List Int) (lo hi : Int) (h0 : 0 ≤ lo) (h1 : lo < hi) (h2 : hi < 2305843009213693952) (hl : S.length ≤ 100000) : ∀ (k : Nat) (D T : List Sp), D ++ T = S → T.length < k →
    qR.l1 K ⟨S, X⟩ lo hi k (D.length : Int) = .ok (xj T lo hi) := by
  intro k
  induction k with
  | zero => intro D T _ h; omega
  | succ k ih =>
    intro D T hD hk
    have hlen : D.length + T.length = S.length := by rw [← hD]; simp
    rw [qR.l1, qv]
    dsimp only
    cases T with
    | nil => rw [if_neg (by simp only [List.length_nil] at hlen; omega)]; rfl
    | cons t T =>
      simp only [List.length_cons] at hlen hk
      have e1 : rd S (D.length : Int) = t := by rw [← hD]; exact yv D t T rfl
      have e3 : qD ((D.length : Int) + 1) = ((D ++ [t]).length : Int) := by rw [qB (by omega) (by omega)]; simp
      have hin : inb (D.length : Int) S.length = true := zw (by omega)
      have himp : ∀ b, imp true b true = true := fun b => by cases b <;> rfl
      unfold zF.m
      rw [if_pos (by omega), jR h0 h1 h2, qK, qN.bind_ok, hin, himp, himp, qo, qo, e1, Bool.true_and, e3]
      unfold xj
      rw [List.any_cons]
      cases (decide (lo < t.Hi_) && decide (t.Lo_ < hi)) with
      | true => rfl
      | false =>
        rw [cond_false, qK, Bool.false_or]
        exact ih (D ++ [t]) T (by rw [← hD]; simp) (by omega)
theorem Qx (K : Nat) (S : List Sp) (X : List Int) (hO : ∀ y ∈ S, y.Lo_ < y.Hi_) (lo hi x : Int) (h1 : lo < hi) (hc : xj S lo hi = false) (hl : S.length ≤ 100000) (hX : X.length = S.length) : ∀ (k : Nat) (D T l : List Sp) (n : List Int) (put : Bool), D ++ T = S → T.length < k →
    (put = true → l.length = D.length + 1) → (put = false → l = D) → n.length = l.length →
    ∃ n', n'.length = S.length + 1 ∧ qf.l1 K ⟨S, X⟩ lo hi x k l n put (D.length : Int) = .ok (0, (if put = true then l ++ T else l ++ yD T lo hi), n') := by
  have hno : ∀ y ∈ S, ¬ (lo < y.Hi_ ∧ y.Lo_ < hi) := by
    intro y hy hh
    have : xj S lo hi = true := List.any_eq_true.2 ⟨y, hy, by simp only [Bool.and_eq_true, decide_eq_true_eq]; exact hh⟩
    rw [this] at hc; cases hc
  intro k
  induction k with
  | zero => intro D T _ _ _ _ h; omega
  | succ k ih =>
    intro D T l n put hD hk hp1 hp0 hn
    have hlen : D.length + T.length = S.length := by rw [← hD]; simp
    rw [qf.l1, qv]
    dsimp only
    cases T with
    | nil =>
      simp only [List.length_nil] at hlen
      rw [if_neg (by omega)]
      unfold qf.j3 qf.j4
      cases put with
      | true =>
        have := hp1 rfl
        rw [Bool.not_true, cond_false]
        exact ⟨n, by omega, by simp⟩
      | false =>
        have := hp0 rfl
        subst this
        rw [Bool.not_false, cond_true, zZ (by rw [List.length_singleton]; omega), qo, qK, zZ (by rw [List.length_singleton]; omega), qo, qK]
        exact ⟨n ++ [x], by rw [List.length_append, List.length_singleton]; omega, by simp [yD]⟩
    | cons t T =>
      simp only [List.length_cons] at hlen hk
      have e1 : rd S (D.length : Int) = t := by rw [← hD]; exact yv D t T rfl
      have e3 : qD ((D.length : Int) + 1) = ((D ++ [t]).length : Int) := by rw [qB (by omega) (by omega)]; simp
      have hin : inb (D.length : Int) S.length = true := zw (by omega)
      have himp : ∀ b, imp true b true = true := fun b => by cases b <;> rfl
      have hlb : l.length ≤ D.length + 1 := by
        cases put with
        | true => have := hp1 rfl; omega
        | false => have := hp0 rfl; subst this; omega
      rw [if_pos (by omega), hin, himp, qo, e1]
      have step : ∀ (l2 : List Sp) (n2 : List Int) (put2 : Bool), l2.length ≤ D.length + 1 → n2.length = l2.length → (put2 = true → l2.length = D.length + 1) → (put2 = false → l2 = D) →
          ∃ n', n'.length = S.length + 1 ∧ qf.j2 K (qf.l1 K ⟨S, X⟩ lo hi x k) ⟨S, X⟩ (D.length : Int) l2 n2 put2 = .ok (0, (if put2 = true then l2 ++ t :: T else l2 ++ t :: yD T lo hi), n') := by
        intro l2 n2 put2 q1 q2 q3 q4
        unfold qf.j2
        dsimp only
        rw [hin, qo, e1, zZ (by rw [List.length_singleton]; omega), qo, qK, zw (by omega), qo, zZ (by rw [List.length_singleton]; omega), qo, qK, qK, e3]
        obtain ⟨n', h3, h4⟩ := ih (D ++ [t]) T (l2 ++ [t]) (n2 ++ [rd X (D.length : Int)]) put2 (by rw [← hD]; simp) (by omega)
          (fun h => by have := q3 h; simp only [List.length_append, List.length_singleton]; omega) (fun h => by rw [q4 h]) (by simp only [List.length_append, List.length_singleton]; omega)
        refine ⟨n', h3, ?_⟩
        rw [show qe.mk t.Lo_ t.Hi_ = t from rfl, h4]
        cases put2 <;> simp
      have ht := hno t (by rw [← hD]; simp)
      cases put with
      | true =>
        have := hp1 rfl
        rw [show (!true && decide (lo < t.Lo_)) = false from rfl, cond_false]
        exact step l n true (by omega) (by omega) hp1 hp0
      | false =>
        have := hp0 rfl
        subst this
        rw [Bool.not_false, Bool.true_and, qv]
        by_cases hlt : lo < t.Lo_
        · rw [if_pos hlt, zZ (by rw [List.length_singleton]; omega), qo, qK, zZ (by rw [List.length_singleton]; omega), qo, qK]
          obtain ⟨n', h3, h4⟩ := step (l ++ [⟨lo, hi⟩]) (n ++ [x]) true (by simp) (by simp only [List.length_append, List.length_singleton]; omega) (fun _ => by simp) (fun h => by cases h)
          refine ⟨n', h3, ?_⟩
          rw [h4, if_pos rfl, if_neg (by decide)]
          have hh : ¬ t.Hi_ ≤ lo := by have := hO t (by rw [← hD]; simp); omega
          unfold yD
          rw [List.takeWhile_cons, List.dropWhile_cons, decide_eq_false hh]
          simp
        · rw [if_neg hlt]
          obtain ⟨n', h3, h4⟩ := step l n false (by omega) (by omega) (fun h => by cases h) (fun _ => rfl)
          refine ⟨n', h3, ?_⟩
          rw [h4, if_neg (by decide), if_neg (by decide)]
          have hh : t.Hi_ ≤ lo := by omega
          unfold yD
          rw [List.takeWhile_cons, List.dropWhile_cons, decide_eq_true hh]
          simp
theorem vM (K : Nat) (S : List Sp) (X : List Int) (hO : ∀ y ∈ S, y.Lo_ < y.Hi_) (lo hi x : Int) (h0 : 0 ≤ lo) (h1 : lo < hi) (h2 : hi < 2305843009213693952) (hl : S.length ≤ 100000) (hX : X.length = S.length) (hK : S.length < K) :
    (xj S lo hi = true ∧ qf.m K ⟨S, X⟩ lo hi x = .ok (5, S, X)) ∨
    (xj S lo hi = false ∧ ∃ X', X'.length = (yD S lo hi).length ∧ qf.m K ⟨S, X⟩ lo hi x = .ok (0, yD S lo hi, X')) := by
  unfold qf.m zF.m qR.m
  have hc := uk K S X lo hi h0 h1 h2 hl K [] S rfl hK
  rw [show (([] : List Sp).length : Int) = 0 from rfl] at hc
  rw [jR h0 h1 h2, qK, qN.bind_ok, Bool.not_true, cond_false, hc, qN.bind_ok]
  cases hcl : xj S lo hi with
  | true => exact .inl ⟨rfl, rfl⟩
  | false =>
    obtain ⟨n', h3, h4⟩ := Qx K S X hO lo hi x h1 hcl hl hX K [] S [] [] false rfl hK (fun h => by cases h) (fun _ => rfl) rfl
    refine .inr ⟨rfl, n', by rw [v4, h3], ?_⟩
    rw [cond_false]
    exact h4
end Go.Pn

set_option maxRecDepth 100000
namespace Go.Pn
open Go Go.Sl Go.Pu Go.Mo
theorem Xk (K : Nat) : ∀ (k : Nat) (s : List UInt8), s.length < k → s.length < 1099511627776 →
    ∃ r n, qT.l1 K 0 k s = .ok r ∧ s = r ++ List.replicate n 0 ∧ (∀ r' x, r = r' ++ [x] → x ≠ 0) := by
  intro k
  induction k with
  | zero => intro s h; omega
  | succ k ih =>
    intro s h hs
    rw [qT.l1]
    rcases List.eq_nil_or_concat s with rfl | ⟨p, x, rfl⟩
    · exact ⟨[], 0, rfl, rfl, fun r' x h => by simp at h⟩
    · rw [List.concat_eq_append] at *
      have hl : (p ++ [x]).length = p.length + 1 := by simp
      have e1 : qD (((p ++ [x]).length : Int) - 1) = (p.length : Int) := by rw [hl, qB (by omega) (by omega)]; omega
      have e2 : rd (p ++ [x]) (p.length : Int) = x := yv p x [] rfl
      have himp : ∀ b, imp true b true = true := fun b => by cases b <;> rfl
      rw [e1, zw (by omega), himp, qo, e2, decide_eq_true (by omega), Bool.true_and, ja, zP (by omega) (by omega) (by omega), qo, qK, x4, List.take_left]
      by_cases hx : x = 0
      · subst hx
        rw [if_pos (show ((UInt8.toNat 0 : Nat) : Int) = 0 from rfl)]
        obtain ⟨r, n, h1, h2, h3⟩ := ih p (by omega) (by omega)
        exact ⟨r, n + 1, h1, by rw [h2, List.replicate_succ']; simp, h3⟩
      · rw [if_neg (by intro h; apply hx; exact UInt8.toNat_inj.1 (by simpa using h))]
        refine ⟨p ++ [x], 0, rfl, by simp, fun r' y h => ?_⟩
        have := List.append_inj' h rfl
        simp only [List.cons.injEq, and_true] at this
        rw [← this.2]; exact hx
theorem Xj (K : Nat) : ∀ (k : Nat) (s : List UInt8), s.length < k → s.length < 1099511627776 →
    ∃ r n, qU.l1 K 0 k s = .ok r ∧ s = List.replicate n 0 ++ r := by
  intro k
  induction k with
  | zero => intro s h; omega
  | succ k ih =>
    intro s h hs
    rw [qU.l1]
    cases s with
    | nil => exact ⟨[], 0, rfl, rfl⟩
    | cons x p =>
      simp only [List.length_cons] at h hs
      have himp : ∀ b, imp true b true = true := fun b => by cases b <;> rfl
      have e2 : rd (x :: p) 0 = x := rfl
      have e3 : sub (x :: p) 1 ((x :: p).length : Int) = p := by
        have := uu (x :: p) 1
        rw [show ((1 : Nat) : Int) = 1 from rfl] at this
        rw [this]; rfl
      rw [uG (by omega) (by simp only [List.length_cons]; omega), himp, qo, e2, decide_eq_true (by simp only [List.length_cons]; omega), Bool.true_and, ja, zP (by omega) (by simp only [List.length_cons]; omega) (by omega), qo, qK, e3]
      by_cases hx : x = 0
      · subst hx
        rw [if_pos (show ((UInt8.toNat 0 : Nat) : Int) = 0 from rfl)]
        obtain ⟨r, n, h1, h2⟩ := ih p (by omega) (by omega)
        exact ⟨r, n + 1, h1, by rw [h2, List.replicate_succ]; simp⟩
      · rw [if_neg (by intro h; apply hx; exact UInt8.toNat_inj.1 (by simpa using h))]
        exact ⟨x :: p, 0, rfl, rfl⟩
def vm (s : List UInt8) : Bool := s.all fun x => x == 0
theorem Q4 (K : Nat) (s : List UInt8) (hs : s.length < 1099511627776) (hK : s.length < K) : ∃ r, zO.m K s = .ok r ∧ (r == []) = vm s := by
  unfold zO.m
  cases s with
  | nil => exact ⟨[], rfl, rfl⟩
  | cons x p =>
    obtain ⟨r, n, h1, h2, h3⟩ := Xk K K (x :: p) hK hs
    have hl : r.length ≤ (x :: p).length := by rw [h2]; simp
    obtain ⟨r2, m, h4, h5⟩ := Xj K K r (by omega) (by omega)
    rw [show ((x :: p == ([] : List UInt8)) || false) = false from rfl, cond_false, show inb (0 : Int) ([0] : List UInt8).length = true from rfl, qo]
    unfold qT.m qU.m
    rw [h1, qN.bind_ok, h4, qN.bind_ok]
    refine ⟨r2, rfl, ?_⟩
    rw [Bool.eq_iff_iff, beq_iff_eq]
    constructor
    · rintro rfl
      rw [List.append_nil] at h5
      rw [h2, h5]; simp [vm]
    · intro hz
      rw [h2] at hz
      unfold vm at hz
      rw [List.all_append, Bool.and_eq_true] at hz
      have hr : r = [] := by
        rcases List.eq_nil_or_concat r with h | ⟨r', y, h⟩
        · exact h
        · exfalso
          rw [List.concat_eq_append] at h
          have hy := h3 r' y h
          have := hz.1
          rw [h] at this
          simp at this
          exact hy this.2
      rw [hr] at h5
      have := congrArg List.length h5
      simp at this
      exact List.length_eq_zero_iff.1 (by omega)
def vk (s : List UInt8) (S : List Sp) (row : List UInt8) : Except Int (Tb × List Sp) :=
  if zm row 8 4 % 4 ≠ 0 ∨ zm row 12 4 > 16777216 then .error 3 else
  if ¬ zm row 8 4 + zT (zm row 12 4) ≤ s.length then .error 2 else
  if vm ((s.drop (zm row 8 4 + zm row 12 4)).take (zT (zm row 12 4) - zm row 12 4)) = false then .error 3 else
  if 0 < zm row 12 4 ∧ xj S (zm row 8 4 : Nat) ((zm row 8 4 + zT (zm row 12 4) : Nat) : Int) = true then .error 5 else
  if yw ((s.drop (zm row 8 4)).take (zm row 12 4)) ≠ zm row 4 4 then .error 4 else
  .ok (⟨row.take 4, (s.drop (zm row 8 4)).take (zm row 12 4)⟩, if 0 < zm row 12 4 then yD S (zm row 8 4 : Nat) ((zm row 8 4 + zT (zm row 12 4) : Nat) : Int) else S)
theorem Zt {n : Nat} (h : n < 18446744073709551616) : je .u64 (n : Int) 3 = ((n % 4 : Nat) : Int) := by
  have := QM (a := n) (b := 3) h (by decide)
  rw [show ((3 : Nat) : Int) = 3 from rfl] at this
  rw [this, show n &&& 3 = n % 4 from Nat.and_two_pow_sub_one_eq_mod n 2]
theorem Qu (K : Nat) (s row : List UInt8) (base : Int) (its : List It) (S : List Sp) (hS : its.map (·.span_) = S) (hO : QB S) (hs : s.length ≤ 1000000) (hr : row.length = 16) (hb0 : 0 ≤ base) (hb1 : base < 140737488355328) (hl : its.length ≤ 100000) (hK : 2000000 < K) :
    match vk s S row with
    | .error e => e ≠ 0 ∧ ∃ its', qL.m K ⟨⟨s, 0⟩, ⟨its⟩⟩ ⟨row, base⟩ = .ok ([], [], e, its')
    | .ok (t, S') => ∃ its', its'.map (·.span_) = S' ∧ qL.m K ⟨⟨s, 0⟩, ⟨its⟩⟩ ⟨row, base⟩ = .ok (t.Tag_, t.Data_, 0, its') := by
  have hU := fun a ha => Zh K row base a 4 w4 (by omega) ha hb0 hb1 (by omega)
  rw [show ((4 : Nat) : Int) = 4 from rfl] at hU
  have u4 := hU 4 (by omega)
  have u8 := hU 8 (by omega)
  have u12 := hU 12 (by omega)
  unfold jt at u4 u8 u12
  rw [if_pos (by omega)] at u4 u8 u12
  have b4 := xq row 4 4
  have b8 := xq row 8 4
  have b12 := xq row 12 4
  unfold qL.m zh.m vk
  have e4 : sub row 0 4 = row.take 4 := x4 row 4
  rw [qN.bind_ok, zP (by omega) (by omega) (by dsimp only; omega), qo, qK]
  dsimp only
  rw [e4]
  rw [show ((4 : Nat) : Int) = 4 from rfl] at u4
  rw [show ((8 : Nat) : Int) = 8 from rfl] at u8
  rw [show ((12 : Nat) : Int) = 12 from rfl] at u12
  rw [u4, qN.bind_ok]
  dsimp only
  rw [u8, qN.bind_ok]
  dsimp only
  rw [u12, qN.bind_ok]
  dsimp only
  generalize zm row 4 4 = sm at *
  generalize zm row 8 4 = a at *
  generalize zm row 12 4 = n at *
  have hup : n ≤ zT n ∧ zT n ≤ n + 3 := by unfold zT; omega
  rw [Zt (by omega), jb, xw, qv]
  by_cases h1 : a % 4 ≠ 0 ∨ n > 16777216
  · rw [if_pos h1]
    refine ⟨by decide, its, ?_⟩
    rcases h1 with h | h
    · rw [if_neg (by omega)]
    · by_cases h2 : a % 4 = 0
      · rw [if_pos (by omega), if_pos (by omega)]
      · rw [if_neg (by omega)]
  · rw [if_neg h1, if_pos (show ((a % 4 : Nat) : Int) = 0 by omega), if_neg (show ¬ ((n : Int) > 16777216) by omega), z3 (x := (n : Int)) (by omega) (by omega), z3 (x := (a : Int)) (by omega) (by omega), yO K n (by omega), qN.bind_ok,
      jl K s 0 a (zT n) (by omega) (by omega) (by omega) (by omega) (by omega)]
    by_cases h2 : a + zT n ≤ s.length
    · rw [if_pos h2, if_neg (fun h => h h2), qN.bind_ok]
      dsimp only
      unfold qL.j1 zh.m xG.m
      have htl : ((s.drop a).take (zT n)).length = zT n := by rw [List.length_take, List.length_drop]; omega
      have hdata : sub ((s.drop a).take (zT n)) 0 (n : Int) = (s.drop a).take n := by rw [x4, List.take_take, Nat.min_eq_left hup.1]
      have hrest : sub ((s.drop a).take (zT n)) (n : Int) (((s.drop a).take (zT n)).length : Int) = (s.drop (a + n)).take (zT n - n) := by
        rw [uu, List.drop_take, List.drop_drop]
      obtain ⟨r, ht1, ht2⟩ := Q4 K ((s.drop (a + n)).take (zT n - n)) (by rw [List.length_take]; omega) (by rw [List.length_take]; omega)
      have hdl : ((s.drop a).take n).length = n := by rw [List.length_take, List.length_drop]; omega
      rw [show ((0 : Int) != 0) = false from rfl, cond_false, qN.bind_ok, zP (by omega) (by omega) (by rw [htl]; omega), qo, qK, qN.bind_ok, zP (by omega) (by rw [htl]; omega) (by omega), qo, hdata, hrest, ht1, qN.bind_ok, ht2]
      cases hz : vm ((s.drop (a + n)).take (zT n - n)) with
      | false => rw [if_pos rfl]; exact ⟨by decide, its, rfl⟩
      | true =>
        rw [if_neg (by decide), Bool.not_true, cond_false, qv]
        have hsum : ∀ its2 : List It, qL.j2 K (row.take 4) (sm : Int) ((s.drop a).take n) its2 = if yw ((s.drop a).take n) ≠ sm then .ok ([], [], 4, its2) else .ok (row.take 4, (s.drop a).take n, 0, its2) := by
          intro its2
          unfold qL.j2
          rw [vD K _ (by omega) (by omega), qN.bind_ok, xo (by omega) (by omega), xw]
          by_cases hw : yw ((s.drop a).take n) = sm
          · rw [if_pos (by omega), if_neg (fun h => h hw)]
          · rw [if_neg (by omega), if_pos hw]
        by_cases hn : 0 < n
        · rw [if_pos (show (n : Int) > 0 by omega), qK, qN.bind_ok]
          dsimp only
          rw [htl, z3 (x := (a : Int)) (by omega) (by omega), qB (by omega) (by omega), show (a : Int) + ((zT n : Nat) : Int) = ((a + zT n : Nat) : Int) by omega]
          rcases Qb K its S hS hO (a : Int) ((a + zT n : Nat) : Int) (row.take 4) (by omega) (by omega) (by omega) hl (by omega) with ⟨hc, hadd⟩ | ⟨hc, its', hm, hadd⟩
          · rw [hadd, hc, if_pos ⟨hn, rfl⟩]
            exact ⟨by decide, its, rfl⟩
          · rw [hadd, hc, if_neg (show ¬ (0 < n ∧ false = true) from fun h => by cases h.2), qN.bind_ok]
            dsimp only
            rw [show ((0 : Int) != 0) = false from rfl, cond_false, hsum]
            by_cases hw : yw ((s.drop a).take n) ≠ sm
            · rw [if_pos hw, if_pos hw]; exact ⟨by decide, its', rfl⟩
            · rw [if_neg hw, if_neg hw]; exact ⟨its', by rw [hm, if_pos hn], rfl⟩
        · rw [if_neg (show ¬ ((n : Int) > 0) by omega), if_neg (show ¬ (0 < n ∧ xj S (a : Int) ((a + zT n : Nat) : Int) = true) from fun h => hn h.1), hsum]
          by_cases hw : yw ((s.drop a).take n) ≠ sm
          · rw [if_pos hw, if_pos hw]; exact ⟨by decide, its, rfl⟩
          · rw [if_neg hw, if_neg hw]; exact ⟨its, by rw [hS, if_neg hn], rfl⟩
    · rw [if_neg h2, if_pos h2, qN.bind_ok]
      exact ⟨by decide, its, rfl⟩
theorem jz (K : Nat) (s : List UInt8) (at_ w : Nat) (hw : Qr w) (h : at_ + w ≤ s.length) (hw4 : w ≤ 4) (hs : s.length < 140737488355328) (hK : 8 < K) : za.m K s (at_ : Int) (w : Int) = .ok ((zm s at_ w : Nat) : Int) := by
  unfold za.m
  rw [ZG K s at_ w hw hs (by omega) hK]
  unfold jt
  have hb := xq s at_ w
  have hp : 256 ^ w ≤ 256 ^ 4 := Nat.pow_le_pow_right (by decide) hw4
  rw [if_pos h, qN.bind_ok]
  dsimp only
  rw [z3 (by omega) (by omega), qK]
theorem Qy (K : Nat) (s row : List UInt8) (x y : Int) (hs : s.length ≤ 1000000) : ∀ (k : Nat) (j i : Nat), i + j ≤ s.length → j < k →
    qI.l1 K s row x y ((i + j : Nat) : Int) k (i : Int) = if vm ((s.drop i).take j) = true then qI.j2 K s row x y ((i + j : Nat) : Int) else .ok ([], [], 0, 0, 3) := by
  intro k
  induction k with
  | zero => intro j i _ h; omega
  | succ k ih =>
    intro j i h1 h2
    rw [qI.l1, qv]
    cases j with
    | zero => rw [if_neg (by omega), if_pos (by simp [vm])]
    | succ j =>
      have e3 : qD ((i : Int) + 1) = ((i + 1 : Nat) : Int) := by rw [qB (by omega) (by omega)]; omega
      rw [if_pos (by omega), zw (by omega), qo, Q6 (by omega), xw, qK, e3, List.drop_eq_getElem_cons (show i < s.length by omega), List.take_succ_cons]
      unfold vm
      rw [List.all_cons]
      by_cases hx : s[i] = 0
      · rw [if_pos (by rw [hx]; rfl), hx, show ((0 : UInt8) == 0) = true from rfl, Bool.true_and, show i + (j + 1) = (i + 1) + j by omega]
        exact ih j (i + 1) (by omega) (by omega)
      · rw [if_neg (by intro h; apply hx; exact UInt8.toNat_inj.1 (by simpa using h)), show (s[i] == 0) = false from by simpa using hx, Bool.false_and, if_neg (by decide)]
theorem Q7 (K : Nat) (s row : List UInt8) (hs : s.length ≤ 1000000) (hr : row.length = 16) (hK : 2000000 < K) :
    qI.m K s row =
      if zm row 8 4 % 4 ≠ 0 ∨ zm row 12 4 > 16777216 then .ok ([], [], 0, 0, 3) else
      if ¬ zm row 8 4 + zT (zm row 12 4) ≤ s.length then .ok ([], [], 0, 0, 2) else
      if vm ((s.drop (zm row 8 4 + zm row 12 4)).take (zT (zm row 12 4) - zm row 12 4)) = false then .ok ([], [], 0, 0, 3) else
      .ok (row.take 4, (s.drop (zm row 8 4)).take (zm row 12 4), (zm row 8 4 : Nat), ((zm row 8 4 + zT (zm row 12 4) : Nat) : Int), 0) := by
  have n8 := jz K row 8 4 w4 (by omega) (by omega) (by omega) (by omega)
  have n12 := jz K row 12 4 w4 (by omega) (by omega) (by omega) (by omega)
  rw [show ((4 : Nat) : Int) = 4 from rfl] at n8 n12
  rw [show ((8 : Nat) : Int) = 8 from rfl] at n8
  rw [show ((12 : Nat) : Int) = 12 from rfl] at n12
  have b8 := xq row 8 4
  have b12 := xq row 12 4
  unfold qI.m
  rw [n8, qN.bind_ok, n12, qN.bind_ok]
  generalize zm row 8 4 = a at *
  generalize zm row 12 4 = n at *
  have hup : n ≤ zT n ∧ zT n ≤ n + 3 := by unfold zT; omega
  have em : jg (a : Int) 4 = ((a % 4 : Nat) : Int) := jY (b := 4)
  rw [em, jb, xw, qv]
  by_cases h1 : a % 4 ≠ 0 ∨ n > 16777216
  · rw [if_pos h1]
    rcases h1 with h | h
    · rw [if_neg (by omega)]
    · by_cases h2 : a % 4 = 0
      · rw [if_pos (by omega), if_pos (by omega)]
      · rw [if_neg (by omega)]
  · rw [if_neg h1, if_pos (show ((a % 4 : Nat) : Int) = 0 by omega), if_neg (show ¬ ((n : Int) > 16777216) by omega), ul K n (by omega), qN.bind_ok, qB (by omega) (by omega), qK, qv]
    by_cases h2 : a + zT n ≤ s.length
    · have hl1 := Qy K s row (a : Int) (n : Int) hs K (zT n - n) (a + n) (by omega) (by omega)
      rw [show a + n + (zT n - n) = a + zT n by omega] at hl1
      rw [if_neg (show ¬ ¬ (a + zT n ≤ s.length) from fun h => h h2), if_neg (show ¬ ((a : Int) + ((zT n : Nat) : Int) > (s.length : Int)) by omega), qB (by omega) (by omega), qK, show (a : Int) + ((zT n : Nat) : Int) = ((a + zT n : Nat) : Int) by omega, show (a : Int) + (n : Int) = ((a + n : Nat) : Int) by omega, hl1]
      cases hz : vm ((s.drop (a + n)).take (zT n - n)) with
      | false => rw [if_neg (by decide), if_pos rfl]
      | true =>
        rw [if_pos rfl, if_neg (by decide)]
        unfold qI.j2
        have e4 : sub row 0 4 = row.take 4 := x4 row 4
        rw [zP (by omega) (by omega) (by omega), qo, qB (by omega) (by omega), show (a : Int) + (n : Int) = ((a + n : Nat) : Int) by omega, zP (by omega) (by omega) (by omega), qo, e4, vO, Nat.add_sub_cancel_left]
    · rw [if_pos (show (a : Int) + ((zT n : Nat) : Int) > (s.length : Int) by omega), if_pos h2]
def ze (s : List UInt8) (i : Nat) : List UInt8 := (s.drop (12 + 16 * i)).take 16
def xJ (s : List UInt8) (kind : Nat) : Nat → Nat → List Sp → List Tb → Nat → List UInt8 → Int × List Tb × Int
  | 0, _, _, out, all, _ => if all ≥ 1073741824 then (0, [], 3) else ((kind : Int), out, 0)
  | j + 1, i, S, out, all, last =>
    if (vl ((ze s i).take 4) && Op.bytesLess last ((ze s i).take 4)) = false then (0, [], 3) else
    match vk s S (ze s i) with
    | .error e => (0, [], e)
    | .ok (t, S') => xJ s kind j (i + 1) S' (out ++ [t]) (all + zT t.Data_.length) t.Tag_
theorem Qk {s row : List UInt8} {S S' : List Sp} {t : Tb} (hO : QB S) (hs : s.length ≤ 1000000) (h : vk s S row = .ok (t, S')) : QB S' ∧ S'.length ≤ S.length + 1 ∧ t.Data_.length ≤ 1000000 ∧ t.Tag_ = row.take 4 := by
  unfold vk at h
  split at h
  · cases h
  · split at h
    · cases h
    · split at h
      · cases h
      · split at h
        · cases h
        · split at h
          · cases h
          · rename_i h1 h2 h3 h4 h5
            simp only [Except.ok.injEq, Prod.mk.injEq] at h
            obtain ⟨rfl, rfl⟩ := h
            have hup : zm row 12 4 ≤ zT (zm row 12 4) := by unfold zT; omega
            refine ⟨?_, ?_, ?_, rfl⟩
            · split
              · rename_i hn
                refine hO.ins (by omega) (by omega) (by omega) ?_
                cases hc : xj S (zm row 8 4 : Nat) ((zm row 8 4 + zT (zm row 12 4) : Nat) : Int) with
                | false => rfl
                | true => exact absurd ⟨hn, hc⟩ h4
              · exact hO
            · split
              · rw [v4]; omega
              · omega
            · show ((s.drop _).take _).length ≤ 1000000
              rw [List.length_take, List.length_drop]; omega
theorem ug (K : Nat) (s : List UInt8) (kind n : Nat) (hk : kind < 4294967296) (hs : s.length ≤ 1000000) (hn : n ≤ 1000) (hsn : 12 + 16 * n ≤ s.length) (hK : 2000000 < K) : ∀ (j k i : Nat) (S : List Sp) (its : List It) (out : List Tb) (all : Nat) (last : List UInt8), i + j = n → j < k → its.map (·.span_) = S → QB S →
    S.length ≤ i + 1 → out.length = i → all ≤ 1000003 * i →
    qZ.l2 K s (kind : Int) (n : Int) ((s.drop 12).take (16 * n)) 12 k its out (all : Int) last (i : Int) = .ok (xJ s kind j i S out all last) := by
  intro j
  induction j with
  | zero =>
    intro k i S its out all last h1 h2 hS hO hSl ho ha
    obtain ⟨k, rfl⟩ : ∃ m, k = m + 1 := ⟨k - 1, by omega⟩
    rw [qZ.l2, qv, if_neg (by omega), xJ]
    unfold qZ.j3
    rw [qv, xo (by omega) (by omega), qK]
    by_cases hb : all ≥ 1073741824
    · rw [if_pos (by omega), if_pos hb]
    · rw [if_neg (by omega), if_neg hb]
  | succ j ih =>
    intro k i S its out all last h1 h2 hS hO hSl ho ha
    obtain ⟨k, rfl⟩ : ∃ m, k = m + 1 := ⟨k - 1, by omega⟩
    have e16 : qD ((16 : Int) * (i : Int)) = ((16 * i : Nat) : Int) := by rw [qB (by omega) (by omega)]; omega
    have hrl : (ze s i).length = 16 := by unfold ze; rw [List.length_take, List.length_drop]; omega
    have hsub := jl K ((s.drop 12).take (16 * n)) 12 (16 * i) 16 (by rw [List.length_take]; omega) (by omega) (by omega) (by omega) (by omega)
    rw [show ((16 : Nat) : Int) = 16 from rfl, if_pos (by rw [List.length_take, List.length_drop]; omega)] at hsub
    have hrow : (((s.drop 12).take (16 * n)).drop (16 * i)).take 16 = ze s i := by
      unfold ze
      rw [List.drop_take, List.drop_drop, List.take_take, Nat.min_eq_left (by omega)]
    rw [hrow] at hsub
    have hitl : its.length ≤ 100000 := by have := congrArg List.length hS; rw [List.length_map] at this; omega
    have e4 : sub (ze s i) 0 4 = (ze s i).take 4 := x4 _ 4
    have htl : ((ze s i).take 4).length = 4 := by rw [List.length_take]; omega
    rw [qZ.l2, qv, if_pos (by omega), e16, hsub, qN.bind_ok, xJ]
    dsimp only
    unfold zh.m
    rw [qN.bind_ok, zP (by omega) (by omega) (by omega), qo, qK, e4, Qd K _ (by omega) (by omega), qN.bind_ok, QE, ← Bool.not_and, yA]
    cases hgood : (vl ((ze s i).take 4) && Op.bytesLess last ((ze s i).take 4)) with
    | false => rw [cond_false, if_pos rfl]
    | true =>
      rw [cond_true, if_neg (by decide)]
      have ht := Qu K s (ze s i) (12 + ((16 * i : Nat) : Int)) its S hS hO hs hrl (by omega) (by omega) hitl hK
      cases htab : vk s S (ze s i) with
      | error e =>
        rw [htab] at ht
        obtain ⟨he, its', hm⟩ := ht
        rw [hm, qN.bind_ok]
        dsimp only
        rw [xw, if_neg he]
      | ok p =>
        obtain ⟨t, S'⟩ := p
        rw [htab] at ht
        obtain ⟨its', hS', hm⟩ := ht
        obtain ⟨hO', hl', hd, htag⟩ := Qk hO hs htab
        have hup : zT t.Data_.length ≤ t.Data_.length + 3 := by unfold zT; omega
        have e3 : qD ((i : Int) + 1) = ((i + 1 : Nat) : Int) := by rw [qB (by omega) (by omega)]; omega
        rw [hm, qN.bind_ok]
        dsimp only
        rw [show ((0 : Int) != 0) = false from rfl, cond_false, yO K _ (by omega), qN.bind_ok, qB (by omega) (by omega), qK, zZ (by rw [List.length_singleton]; omega), qo, qK, e3, show (all : Int) + ((zT t.Data_.length : Nat) : Int) = ((all + zT t.Data_.length : Nat) : Int) by omega]
        exact ih k (i + 1) S' its' (out ++ [t]) _ _ (by omega) (by omega) hS' hO' (by omega) (by rw [List.length_append, List.length_singleton]; omega) (by omega)
theorem ZS {t : List UInt8} (h : t ≠ []) : Op.bytesLess [] t = true := by
  cases t with
  | nil => exact absurd rfl h
  | cons _ _ => rfl
theorem uQ (K : Nat) (s : List UInt8) (kind n : Nat) (hs : s.length ≤ 1000000) (hn : n ≤ 1000) (hsn : 12 + 16 * n ≤ s.length) (hK : 2000000 < K) : ∀ (j k i : Nat) (S : List Sp) (X : List Int) (out : List Tb) (all : Nat) (last : List UInt8), i + j = n → j < k → X.length = S.length → QB S →
    S.length ≤ i + 1 → out.length = i → all ≤ 1000003 * i → (i = 0 → last = []) → (∀ o t, out = o ++ [t] → t.Tag_ = last) →
    qc.l2 K s (kind : Int) (n : Int) k S X out (all : Int) (i : Int) = .ok (xJ s kind j i S out all last) := by
  intro j
  induction j with
  | zero =>
    intro k i S X out all last h1 h2 hX hO hSl ho ha _ _
    obtain ⟨k, rfl⟩ : ∃ m, k = m + 1 := ⟨k - 1, by omega⟩
    rw [qc.l2, qv, if_neg (by omega), xJ]
    unfold qc.j5
    rw [qv]
    by_cases hb : all ≥ 1073741824
    · rw [if_pos (by omega), if_pos hb]
    · rw [if_neg (by omega), if_neg hb]
  | succ j ih =>
    intro k i S X out all last h1 h2 hX hO hSl ho ha hz0 hlast
    obtain ⟨k, rfl⟩ : ∃ m, k = m + 1 := ⟨k - 1, by omega⟩
    have elo : qD ((12 : Int) + qD ((16 : Int) * (i : Int))) = ((12 + 16 * i : Nat) : Int) := by rw [qB (x := 16 * _) (by omega) (by omega), qB (by omega) (by omega)]; omega
    have ehi : qD ((28 : Int) + qD ((16 : Int) * (i : Int))) = ((12 + 16 * i + 16 : Nat) : Int) := by rw [qB (x := 16 * _) (by omega) (by omega), qB (by omega) (by omega)]; omega
    have hrl : (ze s i).length = 16 := by unfold ze; rw [List.length_take, List.length_drop]; omega
    have e4 : sub (ze s i) 0 4 = (ze s i).take 4 := x4 _ 4
    have htl : ((ze s i).take 4).length = 4 := by rw [List.length_take]; omega
    have e3 : qD ((i : Int) + 1) = ((i + 1 : Nat) : Int) := by rw [qB (by omega) (by omega)]; omega
    rw [qc.l2, qv, if_pos (by omega), elo, ehi, zP (by omega) (by omega) (by omega), qo, qK, vO, Nat.add_sub_cancel_left, show (s.drop (12 + 16 * i)).take 16 = ze s i from rfl,
      zP (by omega) (by omega) (by omega), qo, e4, Z0 K _ (by omega) (by omega), qN.bind_ok, xJ]
    cases htag : vl ((ze s i).take 4) with
    | false => rw [cond_false, Bool.false_and, if_pos rfl]; rfl
    | true =>
      rw [cond_true, qv, Bool.true_and]
      -- what comes behind the test of the order
      have main : ∀ b : Bool, b = Op.bytesLess last ((ze s i).take 4) → qc.j3 K (qc.l2 K s (kind : Int) (n : Int) k) s S X out (all : Int) (i : Int) (ze s i) (!b) =
          .ok (if Op.bytesLess last ((ze s i).take 4) = false then (0, [], 3) else match vk s S (ze s i) with
            | .error e => (0, [], e)
            | .ok (t, S') => xJ s kind j (i + 1) S' (out ++ [t]) (all + zT t.Data_.length) t.Tag_) := by
        rintro b rfl
        unfold qc.j3
        cases Op.bytesLess last ((ze s i).take 4) with
        | false => rw [Bool.not_false, cond_true, if_pos rfl]
        | true =>
          rw [Bool.not_true, cond_false, if_neg (by decide), Q7 K s _ hs hrl hK]
          have b4 := xq (ze s i) 4 4
          have b8 := xq (ze s i) 8 4
          have b12 := xq (ze s i) 12 4
          cases htab : vk s S (ze s i) with
          | error e =>
            dsimp only
            unfold vk at htab
            split at htab
            · rename_i h; cases htab; rw [if_pos h]; rfl
            · rename_i h1; rw [if_neg h1]
              split at htab
              · rename_i h; cases htab; rw [if_pos h]; rfl
              · rename_i h2; rw [if_neg h2]
                split at htab
                · rename_i h; cases htab; rw [if_pos h]; rfl
                · rename_i h3; rw [if_neg h3, qN.bind_ok]
                  dsimp only
                  have hup : zm (ze s i) 12 4 ≤ zT (zm (ze s i) 12 4) ∧ zT (zm (ze s i) 12 4) ≤ zm (ze s i) 12 4 + 3 := by unfold zT; omega
                  have hdl : ((s.drop (zm (ze s i) 8 4)).take (zm (ze s i) 12 4)).length = zm (ze s i) 12 4 := by rw [List.length_take, List.length_drop]; omega
                  have hw := vg ((s.drop (zm (ze s i) 8 4)).take (zm (ze s i) 12 4))
                  have n4 := jz K (ze s i) 4 4 w4 (by omega) (by omega) (by omega) (by omega)
                  rw [show ((4 : Nat) : Int) = 4 from rfl] at n4
                  rw [show ((0 : Int) != 0) = false from rfl, cond_false, qv]
                  have hsum : ∀ (S2 : List Sp) (X2 : List Int), yw ((s.drop (zm (ze s i) 8 4)).take (zm (ze s i) 12 4)) ≠ zm (ze s i) 4 4 →
                      qc.j4 K (qc.l2 K s (kind : Int) (n : Int) k) out (all : Int) (i : Int) (ze s i) ((ze s i).take 4) ((s.drop (zm (ze s i) 8 4)).take (zm (ze s i) 12 4)) S2 X2 false = .ok (0, [], 4) := by
                    intro S2 X2 hne
                    unfold qc.j4
                    rw [cond_false, uo K _ (by omega) (by omega) (by omega), qN.bind_ok, n4, qN.bind_ok, z3 (by omega) (by omega), xw, if_neg (by omega)]
                  split at htab
                  · rename_i h
                    cases htab
                    rw [if_pos (by omega)]
                    rcases vM K S X (fun y hy => (hO.each y hy).2.1) (zm (ze s i) 8 4 : Nat) ((zm (ze s i) 8 4 + zT (zm (ze s i) 12 4) : Nat) : Int) (i : Int) (by omega) (by omega) (by omega) (by omega) hX (by omega) with ⟨hc, hadd⟩ | ⟨hc, _⟩
                    · rw [hadd]; rfl
                    · rw [h.2] at hc; cases hc
                  · rename_i h4
                    split at htab
                    · rename_i h5
                      cases htab
                      by_cases hn0 : 0 < zm (ze s i) 12 4
                      · rw [if_pos (by omega)]
                        rcases vM K S X (fun y hy => (hO.each y hy).2.1) (zm (ze s i) 8 4 : Nat) ((zm (ze s i) 8 4 + zT (zm (ze s i) 12 4) : Nat) : Int) (i : Int) (by omega) (by omega) (by omega) (by omega) hX (by omega) with ⟨hc, _⟩ | ⟨hc, X', hX', hadd⟩
                        · exact absurd ⟨hn0, hc⟩ h4
                        · rw [hadd, qN.bind_ok]
                          dsimp only
                          rw [show ((0 : Int) != 0) = false from rfl]
                          exact hsum _ _ h5
                      · have : zT (zm (ze s i) 12 4) = 0 := by rw [show zm (ze s i) 12 4 = 0 by omega]; rfl
                        rw [if_neg (by omega)]
                        exact hsum _ _ h5
                    · cases htab
          | ok p =>
            obtain ⟨t, S'⟩ := p
            obtain ⟨hO', hl', hd, htg⟩ := Qk hO hs htab
            dsimp only
            unfold vk at htab
            split at htab
            · cases htab
            · rename_i h1; rw [if_neg h1]
              split at htab
              · cases htab
              · rename_i h2; rw [if_neg h2]
                split at htab
                · cases htab
                · rename_i h3; rw [if_neg h3, qN.bind_ok]
                  dsimp only
                  have hup : zm (ze s i) 12 4 ≤ zT (zm (ze s i) 12 4) ∧ zT (zm (ze s i) 12 4) ≤ zm (ze s i) 12 4 + 3 := by unfold zT; omega
                  have hdl : ((s.drop (zm (ze s i) 8 4)).take (zm (ze s i) 12 4)).length = zm (ze s i) 12 4 := by rw [List.length_take, List.length_drop]; omega
                  have hw := vg ((s.drop (zm (ze s i) 8 4)).take (zm (ze s i) 12 4))
                  have n4 := jz K (ze s i) 4 4 w4 (by omega) (by omega) (by omega) (by omega)
                  rw [show ((4 : Nat) : Int) = 4 from rfl] at n4
                  rw [show ((0 : Int) != 0) = false from rfl, cond_false, qv]
                  split at htab
                  · cases htab
                  · rename_i h4
                    split at htab
                    · cases htab
                    · rename_i h5
                      simp only [Except.ok.injEq, Prod.mk.injEq] at htab
                      obtain ⟨ht, hS'⟩ := htab
                      have hgo : ∀ (X2 : List Int), X2.length = S'.length →
                          qc.j4 K (qc.l2 K s (kind : Int) (n : Int) k) out (all : Int) (i : Int) (ze s i) ((ze s i).take 4) ((s.drop (zm (ze s i) 8 4)).take (zm (ze s i) 12 4)) S' X2 false =
                          .ok (xJ s kind j (i + 1) S' (out ++ [t]) (all + zT t.Data_.length) t.Tag_) := by
                        intro X2 hX2
                        have htd : t.Data_ = (s.drop (zm (ze s i) 8 4)).take (zm (ze s i) 12 4) := by rw [← ht]
                        have hud : zT ((s.drop (zm (ze s i) 8 4)).take (zm (ze s i) 12 4)).length ≤ 1000003 := by rw [hdl]; omega
                        unfold qc.j4
                        rw [cond_false, uo K _ (by omega) (by omega) (by omega), qN.bind_ok, n4, qN.bind_ok, z3 (by omega) (by omega), xw, if_pos (by omega), ul K _ (by omega), qN.bind_ok, qB (by omega) (by omega), qK,
                          zZ (by rw [List.length_singleton]; omega), qo, qK, qK, e3, ht, ← htd, show (all : Int) + ((zT t.Data_.length : Nat) : Int) = ((all + zT t.Data_.length : Nat) : Int) by omega]
                        have hup2 : zT t.Data_.length ≤ t.Data_.length + 3 := by unfold zT; omega
                        exact ih k (i + 1) S' X2 (out ++ [t]) _ _ (by omega) (by omega) hX2 hO' (by omega) (by rw [List.length_append, List.length_singleton]; omega) (by omega) (fun h => by omega)
                          (fun o t' h => by have := List.append_inj' h rfl; simp only [List.cons.injEq, and_true] at this; rw [this.2])
                      by_cases hn0 : 0 < zm (ze s i) 12 4
                      · rw [if_pos (by omega)]
                        rw [if_pos hn0] at hS'
                        rcases vM K S X (fun y hy => (hO.each y hy).2.1) (zm (ze s i) 8 4 : Nat) ((zm (ze s i) 8 4 + zT (zm (ze s i) 12 4) : Nat) : Int) (i : Int) (by omega) (by omega) (by omega) (by omega) hX (by omega) with ⟨hc, _⟩ | ⟨hc, X', hX', hadd⟩
                        · exact absurd ⟨hn0, hc⟩ h4
                        · rw [hadd, qN.bind_ok]
                          dsimp only
                          rw [show ((0 : Int) != 0) = false from rfl, hS']
                          exact hgo X' (by rw [hX', hS'])
                      · have : zT (zm (ze s i) 12 4) = 0 := by rw [show zm (ze s i) 12 4 = 0 by omega]; rfl
                        rw [if_neg (by omega)]
                        rw [if_neg hn0] at hS'
                        rw [hS']
                        exact hgo X (by rw [hX, hS'])
      by_cases hi : i = 0
      · subst hi
        rw [if_neg (by omega)]
        have hl0 := hz0 rfl
        have hb : Op.bytesLess last ((ze s 0).take 4) = true := by rw [hl0]; exact ZS (fun h => by rw [h] at htl; cases htl)
        have := main true hb.symm
        rw [Bool.not_true] at this
        exact this
      · rw [if_pos (by omega)]
        rcases List.eq_nil_or_concat out with rfl | ⟨o, t, rfl⟩
        · simp at ho; omega
        · rw [List.concat_eq_append] at *
          have hol : (o ++ [t]).length = o.length + 1 := by simp
          have em1 : qD ((i : Int) - 1) = (o.length : Int) := by rw [qB (by omega) (by omega)]; omega
          have e5 : rd (o ++ [t]) (o.length : Int) = t := yv o t [] rfl
          rw [em1, zw (by omega), qo, e5, hlast o t rfl]
          exact main _ rfl
def j8 (s : List UInt8) : Int × List Tb × Int :=
  if s.length < 12 then (0, [], 2) else
  if ¬ ((zm s 0 4 = 65536 ∨ zm s 0 4 = 1330926671) ∧ 1 ≤ zm s 4 2 ∧ zm s 4 2 ≤ 1000 ∧ s.take 12 = x7 (zm s 0 4) (zm s 4 2)) then (0, [], 3) else
  if s.length < 12 + 16 * zm s 4 2 then (0, [], 2) else
  xJ s (zm s 0 4) (zm s 4 2) 0 [⟨0, ((12 + 16 * zm s 4 2 : Nat) : Int)⟩] [] 0 []
theorem u6 (n : Nat) (hn : n ≤ 1000) : QB [⟨0, ((12 + 16 * n : Nat) : Int)⟩] :=
  ⟨fun x hx => by rw [List.mem_singleton] at hx; subst hx; dsimp only; omega, List.pairwise_singleton ..⟩
theorem Q3 (K : Nat) (s : List UInt8) (hs : s.length ≤ 1000000) (hK : 2000000 < K) : qZ.m K s = .ok (j8 s) := by
  have h0 := jl K s 0 0 12 (by omega) (by omega) (by omega) (by omega) (by omega)
  rw [show ((0 : Nat) : Int) = 0 from rfl, show ((12 : Nat) : Int) = 12 from rfl] at h0
  unfold qZ.m vP.m zR.m j8
  rw [qN.bind_ok, qN.bind_ok, h0]
  by_cases h1 : s.length < 12
  · rw [if_neg (by omega), if_pos h1]; rfl
  · rw [if_pos (by omega), if_neg h1, qN.bind_ok]
    dsimp only
    rw [List.drop_zero]
    have htl : (s.take 12).length = 12 := by rw [List.length_take]; omega
    have u0 := Zh K (s.take 12) (0 + 0) 0 4 w4 (by omega) (by omega) (by omega) (by omega) (by omega)
    have u4 := Zh K (s.take 12) (0 + 0) 4 2 w2 (by omega) (by omega) (by omega) (by omega) (by omega)
    unfold jt at u0 u4
    rw [if_pos (by omega)] at u0 u4
    have b0 : zm (s.take 12) 0 4 = zm s 0 4 := by have := jQ s 0 12 0 4 (by omega); rw [List.drop_zero] at this; exact this
    have b4 : zm (s.take 12) 4 2 = zm s 4 2 := by have := jQ s 0 12 4 2 (by omega); rw [List.drop_zero] at this; exact this
    rw [b0] at u0
    rw [b4] at u4
    have l0 := xq s 0 4
    have l4 := xq s 4 2
    rw [show ((0 : Nat) : Int) = 0 from rfl, show ((4 : Nat) : Int) = 4 from rfl] at u0
    rw [show ((2 : Nat) : Int) = 2 from rfl, show ((4 : Nat) : Int) = 4 from rfl] at u4
    rw [show ((0 : Int) != 0) = false from rfl, cond_false, u0, qN.bind_ok]
    dsimp only
    rw [u4, qN.bind_ok]
    dsimp only
    unfold xt.m
    rw [qK, xo (by omega) (by omega), QS, qK, qN.bind_ok, z3 (by omega) (by omega)]
    generalize zm s 0 4 = kind at *
    generalize zm s 4 2 = n at *
    have stop : qZ.j1 K s (kind : Int) (n : Int) true = .ok (0, [], 3) := rfl
    by_cases hg : (kind = 65536 ∨ kind = 1330926671) ∧ 1 ≤ n ∧ n ≤ 1000
    · rw [decide_eq_true hg.1, show (((!true) || decide ((n : Int) < 1)) || decide ((n : Int) > 1000)) = false from by
        rw [Bool.or_eq_false_iff, Bool.or_eq_false_iff]; exact ⟨⟨rfl, decide_eq_false (by omega)⟩, decide_eq_false (by omega)⟩, cond_false]
      unfold zh.m
      rw [qN.bind_ok, uf K kind n l0 hg.2.1 hg.2.2 (by omega), qN.bind_ok]
      by_cases hh : s.take 12 = x7 kind n
      · rw [if_neg (fun h => h ⟨hg.1, hg.2.1, hg.2.2, hh⟩), hh, beq_self_eq_true, Bool.not_true]
        unfold qZ.j1
        have hsub := jl K s 0 12 (16 * n) (by omega) (by omega) (by omega) (by omega) (by omega)
        rw [show ((12 : Nat) : Int) = 12 from rfl] at hsub
        have e16 : qD ((16 : Int) * (n : Int)) = ((16 * n : Nat) : Int) := by rw [qB (by omega) (by omega)]; omega
        have e12 : qD ((12 : Int) + qD ((16 : Int) * (n : Int))) = ((12 + 16 * n : Nat) : Int) := by rw [qB (x := 16 * _) (by omega) (by omega), qB (by omega) (by omega)]; omega
        rw [cond_false, e12, e16, hsub]
        by_cases h2 : s.length < 12 + 16 * n
        · rw [if_neg (by omega), if_pos h2]; rfl
        · rw [if_pos (by omega), if_neg h2, qN.bind_ok]
          dsimp only
          rw [show ((0 : Int) != 0) = false from rfl, cond_false]
          rcases Qb K [] [] rfl ⟨by simp, List.Pairwise.nil⟩ 0 ((12 + 16 * n : Nat) : Int) [] (by omega) (by omega) (by omega) (by simp) (by simp; omega) with ⟨hc, _⟩ | ⟨_, its', hm, hadd⟩
          · cases hc
          · rw [hadd, qN.bind_ok]
            dsimp only
            exact ug K s kind n l0 hs hg.2.2 (by omega) hK n K 0 _ its' [] 0 [] (by omega) (by omega) hm (u6 n hg.2.2) (by simp [yD]) rfl (by omega)
      · rw [if_pos (fun h => hh h.2.2.2), show (s.take 12 == x7 kind n) = false from by simpa using hh]; rfl
    · rw [if_pos (fun h => hg ⟨h.1, h.2.1, h.2.2.1⟩)]
      have d : (((!decide (kind = 65536 ∨ kind = 1330926671)) || decide ((n : Int) < 1)) || decide ((n : Int) > 1000)) = true := by
        by_cases hk : kind = 65536 ∨ kind = 1330926671
        · by_cases hn : 1 ≤ n
          · rw [decide_eq_true (show (n : Int) > 1000 by have : ¬ n ≤ 1000 := fun h => hg ⟨hk, hn, h⟩; omega), Bool.or_true]
          · rw [decide_eq_true (show (n : Int) < 1 by omega)]; simp
        · rw [decide_eq_false hk]; rfl
      rw [d, cond_true, stop]
theorem ZF (K : Nat) (s : List UInt8) (hs : s.length ≤ 1000000) (hK : 2000000 < K) : qc.m K s = .ok (j8 s) := by
  unfold qc.m j8
  rw [qv]
  by_cases h1 : s.length < 12
  · rw [if_pos (by omega), if_pos h1]
  · have n0 := jz K s 0 4 w4 (by omega) (by omega) (by omega) (by omega)
    have n4 := jz K s 4 2 w2 (by omega) (by omega) (by omega) (by omega)
    rw [show ((0 : Nat) : Int) = 0 from rfl, show ((4 : Nat) : Int) = 4 from rfl] at n0
    rw [show ((2 : Nat) : Int) = 2 from rfl, show ((4 : Nat) : Int) = 4 from rfl] at n4
    have l0 := xq s 0 4
    have l4 := xq s 4 2
    rw [if_neg (by omega), if_neg h1, n0, qN.bind_ok, xo (by omega) (by omega), qK, n4, qN.bind_ok]
    unfold z6.m
    rw [QS, qK, qN.bind_ok]
    generalize zm s 0 4 = kind at *
    generalize zm s 4 2 = n at *
    have stop : qc.j1 K s (kind : Int) (n : Int) true = .ok (0, [], 3) := rfl
    by_cases hk : kind = 65536 ∨ kind = 1330926671
    · rw [decide_eq_true hk, cond_true, qv, qv]
      by_cases hn1 : 1 ≤ n
      · by_cases hn2 : n ≤ 1000
        · have e12' : sub s 0 12 = s.take 12 := x4 s 12
          rw [if_neg (by omega), if_neg (by omega), zP (by omega) (by omega) (by omega), qo, ZE K kind n l0 hn1 hn2 (by omega), qN.bind_ok, e12']
          by_cases hh : s.take 12 = x7 kind n
          · rw [if_neg (fun h => h ⟨hk, hn1, hn2, hh⟩), hh, beq_self_eq_true, Bool.not_true]
            unfold qc.j1
            have e12 : qD ((12 : Int) + qD ((16 : Int) * (n : Int))) = ((12 + 16 * n : Nat) : Int) := by rw [qB (x := 16 * _) (by omega) (by omega), qB (by omega) (by omega)]; omega
            rw [cond_false, e12, qv]
            by_cases h2 : s.length < 12 + 16 * n
            · rw [if_pos (by omega), if_pos h2]
            · rw [if_neg (by omega), if_neg h2]
              rcases vM K [] [] (by simp) 0 ((12 + 16 * n : Nat) : Int) 0 (by omega) (by omega) (by omega) (by simp) rfl (by simp; omega) with ⟨hc, _⟩ | ⟨_, X', hX', hadd⟩
              · cases hc
              · rw [hadd, qN.bind_ok]
                dsimp only
                exact uQ K s kind n hs hn2 (by omega) hK n K 0 _ X' [] 0 [] (by omega) (by omega) hX' (u6 n hn2) (by simp [yD]) rfl (by omega) (fun _ => rfl) (fun o t h => by simp at h)
          · rw [if_pos (fun h => hh h.2.2.2), show (s.take 12 == x7 kind n) = false from by simpa using hh]; rfl
        · rw [if_pos (fun h => hn2 h.2.2.1), if_neg (by omega), if_pos (by omega), stop]
      · rw [if_pos (fun h => hn1 h.2.1), if_pos (by omega), stop]
    · rw [if_pos (fun h => hk h.1), decide_eq_false hk, cond_false, stop]
end Go.Pn

set_option maxRecDepth 100000
namespace Go.Pn
open Go Go.Sl Go.Pu Go.Mo
theorem QV (m : Nat) : q8.m (m + 300) = .ok true := by kernel_rfl
theorem QU (K : Nat) (hK : 300 ≤ K) : q8.m K = .ok true := by
  obtain ⟨m, rfl⟩ : ∃ m, K = m + 300 := ⟨K - 300, by omega⟩
  exact QV m
theorem uP (s : List UInt8) (kind : Nat) (hs : s.length ≤ 1000000) : ∀ (j i : Nat) (S : List Sp) (out : List Tb) (all : Nat) (last : List UInt8), (xJ s kind j i S out all last).2.1.length ≤ out.length + j := by
  intro j
  induction j with
  | zero => intro i S out all last; rw [xJ]; split <;> simp
  | succ j ih =>
    intro i S out all last
    rw [xJ]
    split
    · simp
    · split
      · simp
      · rename_i t S' _
        have := ih (i + 1) S' (out ++ [t]) (all + zT t.Data_.length) t.Tag_
        rw [List.length_append, List.length_singleton] at this
        omega
theorem Qw (s : List UInt8) (hs : s.length ≤ 1000000) : (j8 s).2.1.length ≤ 1000 := by
  unfold j8
  split
  · simp
  · split
    · simp
    · rename_i h1 h2
      split
      · simp
      · have := uP s (zm s 0 4) hs (zm s 4 2) 0 [⟨0, ((12 + 16 * zm s 4 2 : Nat) : Int)⟩] [] 0 []
        simp only [List.length_nil] at this
        omega
theorem uh (K : Nat) (hK : 2000000 < K) (s : List UInt8) : qs.m K s = .ok true := by
  unfold qs.m
  rw [qv]
  by_cases h : s.length > 40000
  · rw [if_pos (by omega), QU K (by omega)]; rfl
  · rw [if_neg (by omega), Q3 K s (by omega) hK, qN.bind_ok, ZF K s (by omega) hK]
    have hl := Qw s (by omega)
    generalize j8 s = r at hl
    obtain ⟨a, m, e⟩ := r
    dsimp only at hl ⊢
    rw [qN.bind_ok]
    dsimp only
    rw [beq_self_eq_true, beq_self_eq_true, Bool.true_and, cond_true, same K _ (by omega) (by omega), qN.bind_ok]
    unfold qs.j1 qs.j2
    rw [cond_true, QU K (by omega)]; rfl
theorem j6 (s : List UInt8) (_ : s.length ≤ 140737488351232) : qs.m 10000000000000000000 s = .ok true := uh _ (by decide) s
structure XA (K : Nat) (l : List Tb) : Prop where
  len : l.length ≤ 1001
  tag : ∀ t ∈ l, t.Tag_.length ≤ 9223372036854775807 ∧ t.Tag_.length < K
  dat : ∀ t ∈ l, t.Data_.length ≤ 5000
  sz : uv l ≤ 108003
theorem XA.prog {K : Nat} {l : List Tb} (h : XA K l) (kind : Nat) (hk : kind < 4294967296) (hK : 2000000 < K) : qX.m K (kind : Int) l = .ok (uV kind l) :=
  Qv K kind l hk (by have := h.len; omega) h.tag (by have := h.sz; omega) (fun t ht => by have := h.dat t ht; omega) (by omega)
end Go.Pn

