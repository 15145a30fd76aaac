/- Plain facts on the models: what they compute, and what holds of them; conditions: what each theorem states. -/
import Derived.Test.YtlaobafbdllajaaDoorMohbnj
set_option linter.unusedVariables false
set_option linter.unusedSimpArgs false
namespace Go.Pu
open Go Go.Sl
theorem qz {x : Int} (h0 : -9223372036854775808 ≤ x) (h1 : x < 9223372036854775808) : qC x = x := by
  show (if (true && decide (x % 18446744073709551616 ≥ 9223372036854775808)) = true then x % 18446744073709551616 - 18446744073709551616 else x % 18446744073709551616) = x
  split <;> rename_i h <;> simp at h <;> omega
theorem Xn (x : Int) : wr .u64 x = x % 18446744073709551616 := by
  simp [wr, IntKind.wrap, IntKind.bits, IntKind.signed]
theorem ZI (x : Int) : wr .u32 x = x % 4294967296 := by
  simp [wr, IntKind.wrap, IntKind.bits, IntKind.signed]
theorem Xo (x : Int) : wr .u8 x = x % 256 := by
  simp [wr, IntKind.wrap, IntKind.bits, IntKind.signed]
theorem zZ {x : Int} (h0 : 0 ≤ x) (h1 : x < 18446744073709551616) : wr .u64 x = x := by rw [Xn]; omega
theorem xM {x : Int} (h0 : 0 ≤ x) (h1 : x < 4294967296) : wr .u32 x = x := by rw [ZI]; omega
theorem jN {x : Int} (h0 : 0 ≤ x) (h1 : x < 256) : wr .u8 x = x := by rw [Xo]; omega
theorem xg {x : Int} (h0 : -9223372036854775808 ≤ x) (h1 : x < 9223372036854775808) : wr .i64 x = x := qz h0 h1
theorem x3 (n a : Nat) : BitVec.ofInt n (a : Int) = BitVec.ofNat n a := by
  apply BitVec.eq_of_toNat_eq
  simp
theorem Qv {a b : Nat} (ha : a < 18446744073709551616) (hb : b < 18446744073709551616) : yV .u64 a b = ((a &&& b : Nat) : Int) := by
  show IntKind.u64.wrap ((BitVec.ofInt 64 (a : Int) &&& BitVec.ofInt 64 (b : Int)).toNat : Int) = _
  simp only [x3, BitVec.toNat_and, BitVec.toNat_ofNat]
  rw [Nat.mod_eq_of_lt (by simpa using ha), Nat.mod_eq_of_lt (by simpa using hb)]
  have : a &&& b ≤ a := Nat.and_le_left
  exact zZ (by omega) (by omega)
theorem Qu {a b : Nat} (ha : a < 9223372036854775808) (hb : b < 9223372036854775808) : yV .i64 a b = ((a &&& b : Nat) : Int) := by
  show IntKind.i64.wrap ((BitVec.ofInt 64 (a : Int) &&& BitVec.ofInt 64 (b : Int)).toNat : Int) = _
  simp only [x3, BitVec.toNat_and, BitVec.toNat_ofNat]
  rw [Nat.mod_eq_of_lt (by omega), Nat.mod_eq_of_lt (by omega)]
  have : a &&& b ≤ a := Nat.and_le_left
  exact qz (by omega) (by omega)
theorem Zd {a b : Nat} (ha : a < 18446744073709551616) (hb : b < 18446744073709551616) : Z0 .u64 a b = ((a ||| b : Nat) : Int) := by
  show IntKind.u64.wrap ((BitVec.ofInt 64 (a : Int) ||| BitVec.ofInt 64 (b : Int)).toNat : Int) = _
  simp only [x3, BitVec.toNat_or, BitVec.toNat_ofNat]
  rw [Nat.mod_eq_of_lt (by simpa using ha), Nat.mod_eq_of_lt (by simpa using hb)]
  have : a ||| b < 2 ^ 64 := Nat.or_lt_two_pow (by simpa using ha) (by simpa using hb)
  exact zZ (by omega) (by omega)
theorem QA {a b : Nat} (ha : a < 9223372036854775808) (hb : b < 9223372036854775808) : vc .i64 (a : Int) (b : Int) = ((a / b : Nat) : Int) := by
  unfold vc
  have h1 : (a : Int).tdiv (b : Int) = ((a / b : Nat) : Int) := by rw [Int.ofNat_tdiv]
  rw [h1]
  have h2 : a / b ≤ a := Nat.div_le_self _ _
  generalize a / b = q at h2 ⊢
  exact qz (by omega) (by omega)
theorem v2 {a b : Nat} : vD (a : Int) (b : Int) = ((a % b : Nat) : Int) := by
  unfold vD
  rw [Int.ofNat_tmod]
theorem yW {k : IntKind} {a n : Nat} (hn : n ≤ k.bits) : xE k (a : Int) (n : Int) = ((a / 2 ^ n : Nat) : Int) := by
  unfold xE
  rw [Int.toNat_natCast, Nat.min_eq_left hn, Int.fdiv_eq_ediv_of_nonneg _ (Int.pow_nonneg (by decide))]
  simp
theorem QC {a n : Nat} (hn : n ≤ 64) (h : a * 2 ^ n < 18446744073709551616) : jG .u64 (a : Int) (n : Int) = ((a * 2 ^ n : Nat) : Int) := by
  unfold jG
  rw [Int.toNat_natCast, show min n IntKind.u64.bits = n from Nat.min_eq_left hn]
  have e : (a : Int) * 2 ^ n = ((a * 2 ^ n : Nat) : Int) := by push_cast; rfl
  rw [e]
  exact zZ (by omega) (by omega)
theorem QB {a n : Nat} (hn : n ≤ 32) (h : a * 2 ^ n < 4294967296) : jG .u32 (a : Int) (n : Int) = ((a * 2 ^ n : Nat) : Int) := by
  unfold jG
  rw [Int.toNat_natCast, show min n IntKind.u32.bits = n from Nat.min_eq_left hn]
  have e : (a : Int) * 2 ^ n = ((a * 2 ^ n : Nat) : Int) := by push_cast; rfl
  rw [e]
  exact xM (by omega) (by omega)
end Go.Pu

namespace Go.Pn
open Go Go.Sl Go.Pu
theorem uA {i : Int} {n : Nat} (h0 : 0 ≤ i) (h1 : i < (n : Int)) : inb i n = true := yB.2 ⟨h0, h1⟩
theorem xe {lo hi : Int} {n : Nat} (h0 : 0 ≤ lo) (h1 : lo ≤ hi) (h2 : hi ≤ (n : Int)) : subok lo hi n = true := yE.2 ⟨h0, h1, h2⟩
theorem xV {n k : Nat} (h : n * k ≤ 140737488355328) : room n k = true := decide_eq_true h
theorem zr {n : Nat} (h : n ≤ 9223372036854775807) : xY n = true := decide_eq_true h
theorem ji {x : Int} (h : 0 ≤ x) : decide (0 ≤ x) = true := decide_eq_true h
section
variable {α : Type}
theorem qH {p : Prop} [Decidable p] (a b : α) : cond (decide p) a b = if p then a else b := by
  by_cases h : p <;> simp [h]
theorem yl {x y : Int} (a b : α) : cond (x == y) a b = if x = y then a else b := by
  by_cases h : x = y
  · rw [if_pos h, beq_iff_eq.2 h]; rfl
  · rw [if_neg h, beq_eq_false_iff_ne.2 h]; rfl
theorem ym {x y : Int} (a b : α) : cond (x != y) a b = if x = y then b else a := by
  by_cases h : x = y
  · rw [if_pos h, bne_eq_false_iff_eq.2 h]; rfl
  · rw [if_neg h, bne_iff_ne.2 h]; rfl
theorem yn (x : Bool) (a b : α) : cond (!x) a b = cond x b a := by cases x <;> rfl
theorem vS (x y : Bool) (a b : α) : cond (x && y) a b = cond x (cond y a b) b := by cases x <;> rfl
theorem jK (x y : Bool) (a b : α) : cond (x || y) a b = cond x a (cond y a b) := by cases x <;> rfl
end
theorem QP {α : Type} [Inhabited α] {l : List α} {i : Nat} (h : i < l.length) : rd l (i : Int) = l[i] := by
  simp [rd, List.getD, List.getElem?_eq_getElem h]
theorem zK {i n : Nat} (h : i < n) : inb (i : Int) n = true := by simp only [inb, decide_eq_true_eq]; omega
theorem ul (n : Nat) : wr .u8 (n : Int) = ((n % 256 : Nat) : Int) := by rw [Xo]; rfl
theorem Zy {n : Nat} : jg (n : Int) = UInt8.ofNat n := by unfold jg; rw [Int.toNat_natCast]
theorem Zv {α : Type} (l : List α) (n m : Nat) : sub l (n : Int) (m : Int) = (l.drop n).take (m - n) := by
  simp only [sub, Int.toNat_natCast]
theorem jc {α : Type} (s : List α) (n : Nat) : sub s 0 (n : Int) = s.take n := by simp [sub]
theorem ue {α : Type} (s : List α) (n : Nat) : sub s (n : Int) (s.length : Int) = s.drop n := by
  simp only [sub, Int.toNat_natCast]
  exact List.take_of_length_le (by simp)
theorem xp (l : List UInt8) : (l.map xN).map jg = l := by
  rw [List.map_map]
  have : (jg ∘ xN) = id := by funext x; simp [jg, xN]
  rw [this, List.map_id]
theorem vt {n : Nat} (h : n < 256) : xN (UInt8.ofNat n) = (n : Int) := by
  unfold xN
  have : (UInt8.ofNat n).toNat = n % 256 := by simp
  rw [this, Nat.mod_eq_of_lt h]
theorem jY {α : Type} [Inhabited α] (A : List α) (x : α) (B : List α) {i : Int} (h : i = (A.length : Int)) : rd (A ++ x :: B) i = x := by
  subst h; simp [rd, List.getD]
theorem QW {α : Type} (A : List α) (x y : α) (B : List α) {i : Int} (h : i = (A.length : Int)) : (A ++ x :: B).set (Int.toNat i) y = A ++ y :: B := by
  subst h; simp
def z2 (s : List UInt8) (i : Nat) : Nat := (s.getD i 0).toNat
theorem jQ (s : List UInt8) (i : Nat) : z2 s i < 256 := (s.getD i 0).toNat_lt
theorem Zp {s : List UInt8} {i : Nat} : ((rd s (i : Int)).toNat : Int) = (z2 s i : Int) := by
  simp only [rd, z2, Int.toNat_natCast]; rfl
theorem Z9 {n : Nat} (h : n < 9223372036854775808) : yV .i64 (n : Int) 3 = ((n % 4 : Nat) : Int) := by
  have := Qu (a := n) (b := 3) h (by decide)
  rw [show ((3 : Nat) : Int) = 3 from rfl] at this
  rw [this, show n &&& 3 = n % 4 from Nat.and_two_pow_sub_one_eq_mod n 2]
def Q3 (w : Nat) : Prop := w = 1 ∨ w = 2 ∨ w = 4 ∨ w = 8
def zC (s : List UInt8) (at_ : Nat) : Nat → Nat
  | 0 => 0
  | w + 1 => zC s at_ w * 256 + z2 s (at_ + w)
theorem jh (s : List UInt8) (at_ : Nat) : ∀ w, zC s at_ w < 256 ^ w
  | 0 => by simp [zC]
  | w + 1 => by
    have := jh s at_ w
    have h2 := jQ s (at_ + w)
    rw [zC, Nat.pow_succ]; omega
def xv (s : List UInt8) (w : Nat) : Nat → Nat
  | 0 => 0
  | i + 1 => xv s w i + z2 s (w - 1 - i) * 2 ^ (8 * i)
theorem vp (s : List UInt8) (w : Nat) : ∀ i, xv s w i < 2 ^ (8 * i)
  | 0 => by simp [xv]
  | i + 1 => by
    have := vp s w i
    have h2 := jQ s (w - 1 - i)
    have h3 : z2 s (w - 1 - i) * 2 ^ (8 * i) ≤ 255 * 2 ^ (8 * i) := Nat.mul_le_mul_right _ (by omega)
    rw [xv, show 8 * (i + 1) = 8 * i + 8 by omega, Nat.pow_add]; omega
theorem vo (s : List UInt8) (w : Nat) : ∀ i, i ≤ w → zC s 0 w = zC s 0 (w - i) * 2 ^ (8 * i) + xv s w i
  | 0, _ => by simp [xv]
  | i + 1, h => by
    rw [vo s w i (by omega), xv]
    have e : w - i = (w - (i + 1)) + 1 := by omega
    rw [e, zC, Nat.zero_add, show w - 1 - i = w - (i + 1) by omega, show 8 * (i + 1) = 8 + 8 * i by omega, Nat.pow_add, Nat.add_mul, Nat.mul_assoc, show (2 : Nat) ^ 8 = 256 from rfl]
    omega
theorem uy (s : List UInt8) (at_ w i : Nat) (h : i < w) : z2 ((s.drop at_).take w) i = z2 s (at_ + i) := by
  unfold z2
  rw [List.getD_eq_getElem?_getD, List.getD_eq_getElem?_getD, List.getElem?_take, if_pos h, List.getElem?_drop]
theorem jJ (s : List UInt8) (at_ w j : Nat) : ∀ i, j + i ≤ w → zC ((s.drop at_).take w) j i = zC s (at_ + j) i
  | 0, _ => rfl
  | i + 1, h => by rw [zC, zC, jJ s at_ w j i (by omega), uy s at_ w (j + i) (by omega), Nat.add_assoc]
theorem Qm (s : List UInt8) (at_ w : Nat) (i : Nat) (h : i ≤ w) : zC ((s.drop at_).take w) 0 i = zC s at_ i := jJ s at_ w 0 i (by omega)
theorem Qd (a b : List UInt8) (i : Nat) : z2 (a ++ b) (a.length + i) = z2 b i := by
  unfold z2
  rw [List.getD_eq_getElem?_getD, List.getD_eq_getElem?_getD, List.getElem?_append_right (by omega), Nat.add_sub_cancel_left]
theorem uM (a b : List UInt8) (i : Nat) : ∀ w, zC (a ++ b) (a.length + i) w = zC b i w
  | 0 => rfl
  | w + 1 => by rw [zC, zC, uM a b i w, Nat.add_assoc, Qd]
def z6 : Nat → Nat → List UInt8
  | 0, _ => []
  | w + 1, A => UInt8.ofNat (A / 256 ^ w % 256) :: z6 w A
theorem zz : ∀ w A, (z6 w A).length = w
  | 0, _ => rfl
  | w + 1, A => by rw [z6, List.length_cons, zz w A]
theorem ux (x : UInt8) (l : List UInt8) (i : Nat) : z2 (x :: l) (i + 1) = z2 l i := by
  unfold z2; rw [List.getD_cons_succ]
theorem vP (x : UInt8) (l : List UInt8) (i : Nat) : ∀ w, zC (x :: l) (i + 1) w = zC l i w
  | 0 => rfl
  | w + 1 => by rw [zC, zC, vP x l i w, show i + 1 + w = (i + w) + 1 by omega, ux]
theorem vi (s : List UInt8) (i : Nat) : ∀ w, zC s i (w + 1) = z2 s i * 256 ^ w + zC s (i + 1) w
  | 0 => by simp [zC]
  | w + 1 => by
    rw [zC, vi s i w, zC, show i + (w + 1) = i + 1 + w by omega, Nat.pow_succ, Nat.add_mul, Nat.mul_assoc, Nat.add_assoc]
theorem vA (A : Nat) (r : List UInt8) : ∀ w, zC (z6 w A ++ r) 0 w = A % 256 ^ w
  | 0 => by simp [zC, Nat.mod_one]
  | w + 1 => by
    rw [vi, z6, List.cons_append, Nat.zero_add, show (1 : Nat) = 0 + 1 from rfl, vP, vA A r w]
    have : z2 (UInt8.ofNat (A / 256 ^ w % 256) :: (z6 w A ++ r)) 0 = A / 256 ^ w % 256 := by simp [z2]
    rw [this, Nat.pow_succ, Nat.mod_mul, Nat.add_comm, Nat.mul_comm]
theorem vz (p : List UInt8) (A : Nat) (r : List UInt8) (w : Nat) : zC (p ++ (z6 w A ++ r)) p.length w = A % 256 ^ w := by
  have := uM p (z6 w A ++ r) 0 w
  rw [Nat.add_zero] at this
  rw [this, vA]
def yA (i : Nat) : List UInt8 → Nat
  | [] => 0
  | x :: r => x.toNat * 256 ^ (3 - i % 4) + yA (i + 1) r
def xu (s : List UInt8) : Nat := yA 0 s % 4294967296
theorem uk (s : List UInt8) : xu s < 4294967296 := Nat.mod_lt _ (by decide)
theorem um (i : Nat) : ∀ a b : List UInt8, yA i (a ++ b) = yA i a + yA (i + a.length) b := by
  intro a
  induction a generalizing i with
  | nil => intro b; simp [yA]
  | cons x a ih => intro b; rw [List.cons_append, yA, yA, ih, List.length_cons, show i + 1 + a.length = i + (a.length + 1) by omega]; omega
end Go.Pn

set_option maxRecDepth 100000
namespace Go.Pn
open Go Go.Sl Go.Pu Go.Mo
theorem jA (K : Nat) (w : Nat) (hw : Q3 w) : xt.m K (w : Int) = .ok true := by
  rcases hw with rfl | rfl | rfl | rfl <;> rfl
theorem QZ (K : Nat) (v : List UInt8) (w : Nat) (hw : w ≤ 8) (hv : v.length = w) : ∀ (j k i : Nat), i + j = w → j < k →
    qp.l1 K (w : Int) v k (xv v w i : Int) (i : Int) = .ok ((zC v 0 w : Int), 0) := by
  intro j
  induction j with
  | zero =>
    intro k i hi hk
    obtain ⟨k, rfl⟩ : ∃ m, k = m + 1 := ⟨k - 1, by omega⟩
    rw [qp.l1]
    have := vo v w w (Nat.le_refl _)
    rw [Nat.sub_self] at this
    have e : xv v w i = zC v 0 w := by
      rw [show i = w by omega, this]; simp [zC]
    simp (disch := omega) only [qG.bind_ok, qG.bind_pan, qq, qJ, uh, cond_true, cond_false, qH, yl, ym, yn, vS, jK, qz, jN, xM, zZ, xg, uA, xe, xV, zr, ji, Int.toNat_natCast, if_neg, e]
  | succ j ih =>
    intro k i hi hk
    obtain ⟨k, rfl⟩ : ∃ m, k = m + 1 := ⟨k - 1, by omega⟩
    rw [qp.l1]
    unfold zp.m
    have e1 : (w : Int) - 1 - (i : Int) = ((w - 1 - i : Nat) : Int) := by omega
    have e2 : (8 : Int) * (i : Int) = ((8 * i : Nat) : Int) := by omega
    have e6 : (i : Int) + 1 = ((i + 1 : Nat) : Int) := by push_cast; rfl
    have hb := jQ v (w - 1 - i)
    simp (disch := omega) only [qG.bind_ok, qG.bind_pan, qq, qJ, uh, cond_true, cond_false, qH, yl, ym, yn, vS, jK, qz, jN, xM, zZ, xg, uA, xe, xV, zr, ji, Int.toNat_natCast, if_pos, e1, e2, e6, Zp]
    have hpow : 2 ^ (8 * i) ≤ 2 ^ 56 := Nat.pow_le_pow_right (by decide) (by omega)
    have hm : z2 v (w - 1 - i) * 2 ^ (8 * i) ≤ 255 * 2 ^ (8 * i) := Nat.mul_le_mul_right _ (by omega)
    have hl := vp v w i
    rw [QC (by omega) (by omega), Zd (by omega) (by omega)]
    have e3 : xv v w i ||| z2 v (w - 1 - i) * 2 ^ (8 * i) = xv v w (i + 1) := by
      rw [Nat.or_comm, Nat.mul_comm, ← Nat.two_pow_add_eq_or_of_lt hl, xv, Nat.mul_comm]; omega
    rw [e3]
    exact ih k (i + 1) (by omega) (by omega)
def ug (s : List UInt8) (at_ w : Nat) : Nat × Int := if at_ + w ≤ s.length then (zC s at_ w, 0) else (0, 2)
theorem y5 (K : Nat) (s : List UInt8) (base : Int) (at_ n : Nat) (hs : s.length < 140737488355328) (ha : at_ < 9223372036854775808) (hn : n < 9223372036854775808) (hb0 : 0 ≤ base) (hb1 : base < 140737488355328) :
    ze.m K ⟨s, base⟩ (at_ : Int) (n : Int) = if at_ + n ≤ s.length then .ok ((s.drop at_).take n, base + at_, 0) else .ok ([], 0, 2) := by
  unfold ze.m
  have h0 : (decide ((at_ : Int) < 0) || decide ((n : Int) < 0)) = false := by rw [Bool.or_eq_false_iff]; exact ⟨decide_eq_false (by omega), decide_eq_false (by omega)⟩
  rw [h0, cond_false]
  dsimp only
  by_cases h : at_ + n ≤ s.length
  · have h1 : (decide ((at_ : Int) > (s.length : Int)) || decide ((n : Int) > qC ((s.length : Int) - (at_ : Int)))) = false := by
      rw [Bool.or_eq_false_iff, qz (by omega) (by omega)]; exact ⟨decide_eq_false (by omega), decide_eq_false (by omega)⟩
    have e : qC ((at_ : Int) + (n : Int)) = ((at_ + n : Nat) : Int) := by rw [qz (by omega) (by omega)]; push_cast; rfl
    rw [h1, cond_false, if_pos h, e, xe (by omega) (by omega) (by omega), Zv, Nat.add_sub_cancel_left, qz (by omega) (by omega)]
    rfl
  · have h1 : (decide ((at_ : Int) > (s.length : Int)) || decide ((n : Int) > qC ((s.length : Int) - (at_ : Int)))) = true := by
      rw [Bool.or_eq_true, decide_eq_true_eq, decide_eq_true_eq]
      by_cases h2 : at_ > s.length
      · left; omega
      · right; rw [qz (by omega) (by omega)]; omega
    rw [h1, cond_true, if_neg h]
theorem QY (K : Nat) (s : List UInt8) (base : Int) (at_ w : Nat) (hw : Q3 w) (hs : s.length < 140737488355328) (ha : at_ < 9223372036854775808) (hb0 : 0 ≤ base) (hb1 : base < 140737488355328) (hK : 8 < K) :
    qp.m K ⟨s, base⟩ (at_ : Int) (w : Int) = .ok (((ug s at_ w).1 : Int), (ug s at_ w).2) := by
  unfold qp.m ug
  have hw8 : w ≤ 8 := by unfold Q3 at hw; omega
  rw [jA K w hw, y5 K s base at_ w hs ha (by omega) hb0 hb1]
  simp only [qG.bind_ok, Bool.not_true, cond_false]
  by_cases h : at_ + w ≤ s.length
  · rw [if_pos h, if_pos h]
    have z : ((0 : Int) != 0) = false := rfl
    simp only [qG.bind_ok, z, cond_false, zF.m]
    have hl : ((s.drop at_).take w).length = w := by simp; omega
    have := QZ K ((s.drop at_).take w) w hw8 hl w K 0 (by omega) (by omega)
    rw [Qm s at_ w w (Nat.le_refl _)] at this
    exact this
  · rw [if_neg h, if_neg h]
    rfl
theorem QQ (K : Nat) (w : Nat) (hw : Q3 w) : xF.m K (w : Int) = .ok true := by
  rcases hw with rfl | rfl | rfl | rfl <;> rfl
def uC : List UInt8 := [0, 1, 2, 2, 3, 3, 3, 3, 4, 4, 4, 4, 4, 4, 4, 4, 5, 5, 5, 5, 5, 5, 5, 5, 5, 5, 5, 5, 5, 5, 5, 5, 6, 6, 6, 6, 6, 6, 6, 6, 6, 6, 6, 6, 6, 6, 6, 6, 6, 6, 6, 6, 6, 6, 6, 6, 6, 6, 6, 6, 6, 6, 6, 6, 7, 7, 7, 7, 7, 7, 7, 7, 7, 7, 7, 7, 7, 7, 7, 7, 7, 7, 7, 7, 7, 7, 7, 7, 7, 7, 7, 7, 7, 7, 7, 7, 7, 7, 7, 7, 7, 7, 7, 7, 7, 7, 7, 7, 7, 7, 7, 7, 7, 7, 7, 7, 7, 7, 7, 7, 7, 7, 7, 7, 7, 7, 7, 7, 8, 8, 8, 8, 8, 8, 8, 8, 8, 8, 8, 8, 8, 8, 8, 8, 8, 8, 8, 8, 8, 8, 8, 8, 8, 8, 8, 8, 8, 8, 8, 8, 8, 8, 8, 8, 8, 8, 8, 8, 8, 8, 8, 8, 8, 8, 8, 8, 8, 8, 8, 8, 8, 8, 8, 8, 8, 8, 8, 8, 8, 8, 8, 8, 8, 8, 8, 8, 8, 8, 8, 8, 8, 8, 8, 8, 8, 8, 8, 8, 8, 8, 8, 8, 8, 8, 8, 8, 8, 8, 8, 8, 8, 8, 8, 8, 8, 8, 8, 8, 8, 8, 8, 8, 8, 8, 8, 8, 8, 8, 8, 8, 8, 8, 8, 8, 8, 8, 8, 8, 8, 8, 8, 8, 8, 8, 8, 8]
theorem Qh : ∀ v : Nat, v < 256 → ∀ m : Nat, m < 9 → ((rd uC (v : Int)).toNat ≤ m ↔ v < 2 ^ m) := by decide +kernel
def jw (x r : Nat) : Prop := ∀ m : Nat, r ≤ m ↔ x < 2 ^ m
theorem v3 {x r : Nat} (hx : x < 256) (h : ∀ m, m < 9 → (r ≤ m ↔ x < 2 ^ m)) : jw x r := by
  intro m
  by_cases hm : m < 9
  · exact h m hm
  · have h8 := (h 8 (by omega)).2 (by omega)
    have : 2 ^ 8 ≤ 2 ^ m := Nat.pow_le_pow_right (by decide) (by omega)
    constructor <;> intro _ <;> omega
theorem yM {x r j : Nat} (hx : 2 ^ j ≤ x) (h : jw (x / 2 ^ j) r) : jw x (j + r) := by
  intro m
  by_cases hm : j ≤ m
  · have e : x / 2 ^ j < 2 ^ (m - j) ↔ x < 2 ^ m := by
      rw [Nat.div_lt_iff_lt_mul (Nat.two_pow_pos j), ← Nat.pow_add, show m - j + j = m by omega]
    rw [← e, ← h (m - j)]; omega
  · have : 2 ^ m < 2 ^ j := Nat.pow_lt_pow_right (by decide) (by omega)
    constructor <;> intro _ <;> omega
theorem v4 (K x n : Nat) (hx : x < 256) (hn : n ≤ 64) : ∃ r : Nat, jw x r ∧ ql.j3 K (x : Int) (n : Int) = .ok ((n + r : Nat) : Int) := by
  have ht := Qh x hx
  have e : wr .u8 (x : Int) = (x : Int) := jN (by omega) (by omega)
  unfold ql.j3
  rw [e, zK (by simpa using hx), qq, qJ]
  show ∃ r : Nat, jw x r ∧ qG.ok (qC ((n : Int) + wr .i64 (((rd uC (x : Int)).toNat : Nat) : Int))) = .ok ((n + r : Nat) : Int)
  generalize (rd uC (x : Int)).toNat = q at ht ⊢
  have hq := (ht 8 (by omega)).2 (by omega)
  have e2 : wr .i64 (q : Int) = (q : Int) := xg (by omega) (by omega)
  rw [e2, qz (by omega) (by omega)]
  exact ⟨q, v3 hx ht, by rw [Int.natCast_add]⟩
theorem Xc (K x : Nat) (hx : x < 18446744073709551616) : ∃ r : Nat, jw x r ∧ ql.m K (x : Int) = .ok (r : Int) := by
  have j2 : ∀ y n : Nat, y < 65536 → n ≤ 48 → ∃ r : Nat, jw y r ∧ ql.j2 K (y : Int) (n : Int) = .ok ((n + r : Nat) : Int) := by
    intro y n hy hn
    unfold ql.j2
    rw [qH]
    by_cases h : y ≥ 256
    · have e : xE .u64 (y : Int) 8 = ((y / 256 : Nat) : Int) := yW (n := 8) (by decide)
      rw [if_pos (by omega), qJ, qJ, e, qz (by omega) (by omega), show (n : Int) + 8 = ((n + 8 : Nat) : Int) from by omega]
      obtain ⟨r, hr, h2⟩ := v4 K (y / 256) (n + 8) (by omega) (by omega)
      exact ⟨8 + r, yM (j := 8) (by omega) hr, by rw [h2, Nat.add_assoc]⟩
    · rw [if_neg (by omega)]
      exact v4 K y n (by omega) (by omega)
  have j1 : ∀ y n : Nat, y < 4294967296 → n ≤ 32 → ∃ r : Nat, jw y r ∧ ql.j1 K (y : Int) (n : Int) = .ok ((n + r : Nat) : Int) := by
    intro y n hy hn
    unfold ql.j1
    rw [qH]
    by_cases h : y ≥ 65536
    · have e : xE .u64 (y : Int) 16 = ((y / 65536 : Nat) : Int) := yW (n := 16) (by decide)
      rw [if_pos (by omega), qJ, qJ, e, qz (by omega) (by omega), show (n : Int) + 16 = ((n + 16 : Nat) : Int) from by omega]
      obtain ⟨r, hr, h2⟩ := j2 (y / 65536) (n + 16) (by omega) (by omega)
      exact ⟨16 + r, yM (j := 16) (by omega) hr, by rw [h2, Nat.add_assoc]⟩
    · rw [if_neg (by omega)]
      exact j2 y n (by omega) (by omega)
  unfold ql.m
  rw [qH]
  by_cases h : x ≥ 4294967296
  · have e : xE .u64 (x : Int) 32 = ((x / 4294967296 : Nat) : Int) := yW (n := 32) (by decide)
    rw [if_pos (by omega), qJ, e, show (32 : Int) = ((32 : Nat) : Int) from rfl]
    obtain ⟨r, hr, h2⟩ := j1 (x / 4294967296) 32 (by omega) (by omega)
    exact ⟨32 + r, yM (j := 32) (by omega) hr, h2⟩
  · rw [if_neg (by omega), show (0 : Int) = ((0 : Nat) : Int) from rfl]
    obtain ⟨r, hr, h2⟩ := j1 x 0 (by omega) (by omega)
    rw [Nat.zero_add] at h2
    exact ⟨r, hr, h2⟩
theorem uj (K A w : Nat) (hw : w ≤ 8) (z : List Int) (hz : z.length = w) : ∀ (j k i : Nat), i + j = w → j < k →
    qS.l1 K (A : Int) (w : Int) z k (List.replicate (w - i) 0 ++ (z6 i A).map xN) (i : Int) = .ok (z6 w A, 0) := by
  intro j
  induction j with
  | zero =>
    intro k i hi hk
    obtain ⟨k, rfl⟩ : ∃ m, k = m + 1 := ⟨k - 1, by omega⟩
    have : i = w := by omega
    subst this
    rw [qS.l1, qH, if_neg (by omega), qJ, Nat.sub_self]
    simp only [List.replicate_zero, List.nil_append, xp]
  | succ j ih =>
    intro k i hi hk
    obtain ⟨k, rfl⟩ : ∃ m, k = m + 1 := ⟨k - 1, by omega⟩
    have e1 : qC (qC ((w : Int) - 1) - (i : Int)) = ((w - 1 - i : Nat) : Int) := by rw [qz (x := (w : Int) - 1) (by omega) (by omega), qz (by omega) (by omega)]; omega
    have e2 : qC ((8 : Int) * (i : Int)) = ((8 * i : Nat) : Int) := by rw [qz (by omega) (by omega)]; omega
    have e3 : qC ((i : Int) + 1) = ((i + 1 : Nat) : Int) := by rw [qz (by omega) (by omega)]; omega
    have hl : (List.replicate (w - i) (0 : Int) ++ (z6 i A).map xN).length = w := by simp only [List.length_append, List.length_replicate, List.length_map, zz]; omega
    have hset : (List.replicate (w - i) (0 : Int) ++ (z6 i A).map xN).set (w - 1 - i) ((A / 256 ^ i % 256 : Nat) : Int) = List.replicate (w - (i + 1)) 0 ++ (z6 (i + 1) A).map xN := by
      have e : List.replicate (w - i) (0 : Int) ++ (z6 i A).map xN = List.replicate (w - (i + 1)) 0 ++ 0 :: (z6 i A).map xN := by
        rw [show w - i = (w - (i + 1)) + 1 by omega, List.replicate_succ']; simp
      have := QW (List.replicate (w - (i + 1)) (0 : Int)) 0 ((A / 256 ^ i % 256 : Nat) : Int) ((z6 i A).map xN) (i := ((w - 1 - i : Nat) : Int)) (by rw [List.length_replicate]; omega)
      rw [e, Int.toNat_natCast] at *
      rw [this, z6, List.map_cons, vt (Nat.mod_lt _ (by decide))]
    rw [qS.l1, qH, if_pos (by omega), e2, ji (by omega), qq]
    unfold zp.m
    rw [e1, qJ, qG.bind_ok, zK (by rw [hl]; omega), qq, qJ, e3, yW (show 8 * i ≤ 64 by omega), ul, show 2 ^ (8 * i) = 256 ^ i from by rw [Nat.pow_mul], Int.toNat_natCast, hset]
    exact ih k (i + 1) (by omega) (by omega)
def ya (w A : Nat) : List UInt8 × Int := if A < 256 ^ w then (z6 w A, 0) else ([], 10)
theorem ui (K A w : Nat) (hw : Q3 w) (hA : A < 18446744073709551616) (hK : 8 < K) : qS.m K (A : Int) (w : Int) = .ok (ya w A) := by
  have hw8 : w ≤ 8 := by unfold Q3 at hw; omega
  obtain ⟨r, hr, h⟩ := Xc K A hA
  unfold qS.m ya
  rw [jA K w hw, qG.bind_ok, Bool.not_true, cond_false, h, qG.bind_ok, qH, qz (by omega) (by omega)]
  have hm := hr (8 * w)
  rw [Nat.pow_mul, show (2 : Nat) ^ 8 = 256 from rfl] at hm
  by_cases hf : A < 256 ^ w
  · have := hm.2 hf
    have hl := uj K A w hw8 (List.replicate w 0) (List.length_replicate ..) w K 0 (by omega) (by omega)
    simp only [Nat.sub_zero, z6, List.map_nil, List.append_nil] at hl
    rw [if_pos hf, if_neg (by omega)]
    unfold zF.m
    rw [qG.bind_ok, ji (by omega), Bool.true_and, xV (by omega), qq, qJ, Int.toNat_natCast]
    exact hl
  · rw [if_neg hf, if_pos (by omega)]
theorem ub (K A w : Nat) (hw : w ≤ 8) (hA : A < 18446744073709551616) : ∀ (j k i : Nat), i + j = w → j < k →
    qt.l1 K (w : Int) true k ((A / 256 ^ i : Nat) : Int) (List.replicate (w - i) 0 ++ (z6 i A).map xN) (i : Int) = .ok (ya w A) := by
  intro j
  induction j with
  | zero =>
    intro k i hi hk
    obtain ⟨k, rfl⟩ : ∃ m, k = m + 1 := ⟨k - 1, by omega⟩
    have : i = w := by omega
    subst this
    rw [qt.l1, qH, if_neg (by omega)]
    unfold qt.j3 ya
    rw [qH]
    by_cases hf : A < 256 ^ i
    · rw [if_pos hf, Nat.div_eq_of_lt hf, if_neg (by omega), qJ, Nat.sub_self]
      simp only [List.replicate_zero, List.nil_append, xp]
    · have : 0 < A / 256 ^ i := Nat.div_pos (by omega) (Nat.pow_pos (by decide))
      rw [if_neg hf, if_pos (by omega)]
  | succ j ih =>
    intro k i hi hk
    obtain ⟨k, rfl⟩ : ∃ m, k = m + 1 := ⟨k - 1, by omega⟩
    have hle : A / 256 ^ i ≤ A := Nat.div_le_self _ _
    have e1 : qC (qC ((w : Int) - 1) - (i : Int)) = ((w - 1 - i : Nat) : Int) := by rw [qz (x := (w : Int) - 1) (by omega) (by omega), qz (by omega) (by omega)]; omega
    have e3 : qC ((i : Int) + 1) = ((i + 1 : Nat) : Int) := by rw [qz (by omega) (by omega)]; omega
    have hl : (List.replicate (w - i) (0 : Int) ++ (z6 i A).map xN).length = w := by simp only [List.length_append, List.length_replicate, List.length_map, zz]; omega
    have hset : (List.replicate (w - i) (0 : Int) ++ (z6 i A).map xN).set (w - 1 - i) ((A / 256 ^ i % 256 : Nat) : Int) = List.replicate (w - (i + 1)) 0 ++ (z6 (i + 1) A).map xN := by
      have e : List.replicate (w - i) (0 : Int) ++ (z6 i A).map xN = List.replicate (w - (i + 1)) 0 ++ 0 :: (z6 i A).map xN := by
        rw [show w - i = (w - (i + 1)) + 1 by omega, List.replicate_succ']; simp
      have := QW (List.replicate (w - (i + 1)) (0 : Int)) 0 ((A / 256 ^ i % 256 : Nat) : Int) ((z6 i A).map xN) (i := ((w - 1 - i : Nat) : Int)) (by rw [List.length_replicate]; omega)
      rw [e, Int.toNat_natCast] at *
      rw [this, z6, List.map_cons, vt (Nat.mod_lt _ (by decide))]
    have e5 : vD ((A / 256 ^ i : Nat) : Int) 256 = ((A / 256 ^ i % 256 : Nat) : Int) := v2 (b := 256)
    have e6 : vc .u64 ((A / 256 ^ i : Nat) : Int) 256 = ((A / 256 ^ (i + 1) : Nat) : Int) := by
      unfold vc
      have e : Int.tdiv ((A / 256 ^ i : Nat) : Int) 256 = ((A / 256 ^ i / 256 : Nat) : Int) := (Int.ofNat_tdiv (A / 256 ^ i) 256).symm
      rw [e, Nat.div_div_eq_div_mul, show 256 ^ i * 256 = 256 ^ (i + 1) from (Nat.pow_succ ..).symm]
      have := Nat.div_le_self A (256 ^ (i + 1))
      generalize A / 256 ^ (i + 1) = z at this
      exact zZ (by omega) (by omega)
    rw [qt.l1, qH, if_pos (by omega), cond_true, qJ]
    unfold qt.j2
    rw [e1, zK (by rw [hl]; omega), qq, qJ, qJ, qJ, e3, e5, e6, ul, Nat.mod_mod, Int.toNat_natCast, hset]
    exact ih k (i + 1) (by omega) (by omega)
theorem ua (K A w : Nat) (hw : Q3 w) (hA : A < 18446744073709551616) (hK : 8 < K) : qt.m K (A : Int) (w : Int) true = .ok (ya w A) := by
  have hw8 : w ≤ 8 := by unfold Q3 at hw; omega
  have hl := ub K A w hw8 hA w K 0 (by omega) (by omega)
  simp only [Nat.sub_zero, z6, List.map_nil, List.append_nil, Nat.pow_zero, Nat.div_one] at hl
  unfold qt.m
  rw [QQ K w hw, qG.bind_ok, Bool.not_true, cond_false, ji (by omega), Bool.true_and, xV (by omega), qq, qJ, Int.toNat_natCast]
  exact hl
theorem vF (K : Nat) (s : List UInt8) (hs : s.length < 140737488355328) : ∀ (k : Nat) (D T : List UInt8) (n : Nat), D ++ T = s → T.length < k → n < 4294967296 →
    zn.l1 K s k (n : Int) (D.length : Int) = .ok (((n + yA D.length T) % 4294967296 : Nat) : Int) := by
  intro k
  induction k with
  | zero => intro D T n _ h; omega
  | succ k ih =>
    intro D T n h1 hk hn
    have hlen : D.length + T.length = s.length := by rw [← h1]; simp
    rw [zn.l1, qH]
    cases T with
    | nil =>
      rw [if_neg (by simp only [List.length_nil] at hlen; omega), yA, Nat.add_zero, Nat.mod_eq_of_lt hn]
    | cons x T =>
      simp only [List.length_cons] at hlen hk
      have e1 : rd s (D.length : Int) = x := by rw [← h1]; exact jY D x T rfl
      have e3 : qC ((D.length : Int) + 1) = ((D ++ [x]).length : Int) := by rw [qz (by omega) (by omega)]; simp
      have hx := x.toNat_lt
      have hd : D.length % 4 < 4 := Nat.mod_lt _ (by decide)
      have e4 : qC ((24 : Int) - qC (8 * ((D.length % 4 : Nat) : Int))) = ((24 - 8 * (D.length % 4) : Nat) : Int) := by
        rw [qz (x := 8 * _) (by omega) (by omega), qz (by omega) (by omega)]; omega
      have hpow : 2 ^ (24 - 8 * (D.length % 4)) = 256 ^ (3 - D.length % 4) := by rw [show 24 - 8 * (D.length % 4) = 8 * (3 - D.length % 4) by omega, Nat.pow_mul]
      have hple : 256 ^ (3 - D.length % 4) ≤ 256 ^ 3 := Nat.pow_le_pow_right (by decide) (by omega)
      have hm : x.toNat * 256 ^ (3 - D.length % 4) ≤ 255 * 256 ^ 3 := Nat.mul_le_mul (by omega) hple
      rw [if_pos (by omega), zK (by omega), qq, e1, Z9 (by omega), e4, ji (by omega), qq, qJ, xM (x := ((x.toNat : Nat) : Int)) (by omega) (by omega), QB (by omega) (by rw [hpow]; omega), hpow, ZI, e3]
      have e5 : ((n : Int) + ((x.toNat * 256 ^ (3 - D.length % 4) : Nat) : Int)) % 4294967296 = (((n + x.toNat * 256 ^ (3 - D.length % 4)) % 4294967296 : Nat) : Int) := by omega
      rw [e5, ih (D ++ [x]) T _ (by rw [← h1]; simp) (by omega) (Nat.mod_lt _ (by decide)), yA, List.length_append, List.length_singleton]
      congr 2
      omega
theorem vu (K : Nat) (s : List UInt8) (hs : s.length < 140737488355328) (hK : s.length < K) : zn.m K s = .ok ((xu s : Nat) : Int) := by
  have := vF K s hs K [] s 0 rfl hK (by decide)
  rw [Nat.zero_add] at this
  exact this
end Go.Pn

set_option maxRecDepth 100000
namespace Go.Pn
open Go Go.Sl Go.Pu Go.Mo
abbrev Tb := qb
theorem Qo : ∀ a b : List UInt8, (Op.bytesLess a b || a == b) = !Op.bytesLess b a
  | [], [] => rfl
  | [], _ :: _ => rfl
  | _ :: _, [] => rfl
  | x :: a, y :: b => by
    have ih := Qo a b
    simp only [Op.bytesLess]
    have hxy : x < y ↔ x.toNat < y.toNat := UInt8.lt_iff_toNat_lt
    have hyx : y < x ↔ y.toNat < x.toNat := UInt8.lt_iff_toNat_lt
    have heq : x = y ↔ x.toNat = y.toNat := UInt8.toNat_inj.symm
    by_cases h1 : x = y
    · subst h1
      have hn : ¬ x < x := by rw [hxy]; omega
      have e : (x :: a == x :: b) = (a == b) := by simp
      rw [e, decide_eq_false hn]
      simp only [beq_self_eq_true, Bool.true_and, Bool.false_or]
      exact ih
    · have e : (x :: a == y :: b) = false := by simp [h1]
      have e1 : (x == y) = false := by simp [h1]
      have e2 : (y == x) = false := by simp; exact fun h => h1 h.symm
      rw [e, e1, e2]
      simp only [Bool.false_and, Bool.or_false]
      by_cases h2 : x < y
      · rw [decide_eq_true h2, decide_eq_false (by rw [hyx]; rw [hxy] at h2; omega)]; rfl
      · have : y < x := by rw [hyx]; rw [hxy] at h2; rw [heq] at h1; omega
        rw [decide_eq_false h2, decide_eq_true this]; rfl
def Z5 (x : UInt8) : Bool := decide (32 ≤ x.toNat ∧ x.toNat ≤ 126)
def vg (s : List UInt8) : Bool := s.all Z5 && decide (s.length = 4)
theorem xI {s : List UInt8} (h : vg s = true) : s.length = 4 := by
  unfold vg at h; rw [Bool.and_eq_true] at h; exact of_decide_eq_true h.2
theorem QE (n : Nat) : ((n : Int) == (4 : Int)) = decide (n = 4) := by
  rw [Bool.eq_iff_iff]; simp only [beq_iff_eq, decide_eq_true_eq]; omega
theorem uG (K : Nat) (s : List UInt8) (hs : s.length ≤ 9223372036854775807) : ∀ (k : Nat) (D T : List UInt8), D ++ T = s → T.length < k →
    zh.l1 K s (s.map xN) k (D.length : Int) = .ok (T.all Z5 && decide (s.length = 4)) := by
  intro k
  induction k with
  | zero => intro D T _ h; omega
  | succ k ih =>
    intro D T h1 hk
    have hlen : D.length + T.length = s.length := by rw [← h1]; simp
    rw [zh.l1, qH, List.length_map]
    cases T with
    | nil =>
      rw [if_neg (by simp only [List.length_nil] at hlen; omega), qJ, List.all_nil, Bool.true_and, QE]
    | cons x T =>
      simp only [List.length_cons] at hlen hk
      have e1 : rd (s.map xN) (D.length : Int) = xN x := by rw [← h1, List.map_append, List.map_cons]; exact jY _ _ _ (by rw [List.length_map])
      have e3 : qC ((D.length : Int) + 1) = ((D ++ [x]).length : Int) := by rw [qz (by omega) (by omega)]; simp
      have e4 : (decide (xN x < (32 : Int)) || decide (xN x > (126 : Int))) = !Z5 x := by
        unfold Z5 xN
        rw [Bool.eq_iff_iff]; simp only [Bool.or_eq_true, decide_eq_true_eq, Bool.not_eq_true', decide_eq_false_iff_not]; omega
      rw [if_pos (by omega), zK (by omega), qq, qJ, e1, e4, e3, List.all_cons]
      cases hx : Z5 x with
      | false => rfl
      | true =>
        rw [Bool.not_true, cond_false, Bool.true_and]
        exact ih (D ++ [x]) T (by rw [← h1]; simp) (by omega)
theorem u2 (K : Nat) (s : List UInt8) (hs : s.length ≤ 9223372036854775807) (hK : s.length < K) : zh.m K s = .ok (vg s) := by
  unfold zh.m
  rw [zr hs, qq, qJ]
  exact uG K s hs K [] s rfl hK
def zy (n : Nat) : Nat := (n + 3) / 4 * 4
theorem Ql (x : BitVec 64) : x &&& ~~~ 3#64 = (x >>> 2) <<< 2 := by
  apply BitVec.eq_of_getLsbD_eq
  intro i hi
  rcases i with _ | _ | i
  · simp
  · simp
  · have : (3#64).getLsbD (i + 2) = false := by
      simp only [BitVec.getLsbD_ofNat]
      have : Nat.testBit 3 (i + 2) = false := by
        rw [Nat.testBit_eq_decide_div_mod_eq]
        have : 3 / 2 ^ (i + 2) = 0 := Nat.div_eq_of_lt (by rw [Nat.pow_add]; have := Nat.two_pow_pos i; omega)
        rw [this]; rfl
      rw [this]; simp
    rw [BitVec.getLsbD_and, BitVec.getLsbD_not, BitVec.getLsbD_shiftLeft, BitVec.getLsbD_ushiftRight, show i + 1 + 1 = i + 2 from rfl, this]
    have h2 : decide (i + 2 < 64) = true := decide_eq_true hi
    have h3 : decide (i + 2 < 2) = false := decide_eq_false (by omega)
    rw [h2, h3, show 2 + (i + 2 - 2) = i + 2 by omega]; simp
theorem Z4 {n : Nat} (h : n < 9223372036854775804) : vX .i64 (n : Int) 3 = ((n / 4 * 4 : Nat) : Int) := by
  show IntKind.i64.wrap ((BitVec.ofInt 64 (n : Int) &&& ~~~ BitVec.ofInt 64 (3 : Int)).toNat : Int) = _
  have e : (BitVec.ofInt 64 (n : Int) &&& ~~~ BitVec.ofInt 64 (3 : Int)).toNat = n / 4 * 4 := by
    rw [x3, show BitVec.ofInt 64 (3 : Int) = 3#64 from rfl, Ql]; simp; omega
  rw [e]
  exact qz (by omega) (by omega)
theorem yC (K n : Nat) (h : n < 9223372036854775000) : zN.m K (n : Int) = .ok ((zy n : Nat) : Int) := by
  unfold zN.m zy
  rw [qz (by omega) (by omega), show (n : Int) + 3 = ((n + 3 : Nat) : Int) by omega, Z4 (by omega), qJ]
theorem w4 : Q3 4 := .inr (.inr (.inl rfl))
theorem w2 : Q3 2 := .inr (.inl rfl)
theorem u3 (K n : Nat) (h : n < 4294967296) (hK : 8 < K) : yz.m K (n : Int) = .ok (z6 4 n) := by
  unfold yz.m
  have := ui K n 4 w4 (by omega) hK
  rw [show ((4 : Nat) : Int) = 4 from rfl] at this
  rw [zZ (by omega) (by omega), this, qG.bind_ok]
  unfold ya
  rw [if_pos (by omega)]
theorem u1 (K n : Nat) (h : n < 65536) (hK : 8 < K) : yy.m K (n : Int) = .ok (z6 2 n) := by
  unfold yy.m
  have := ui K n 2 w2 (by omega) hK
  rw [show ((2 : Nat) : Int) = 2 from rfl] at this
  rw [zZ (by omega) (by omega), this, qG.bind_ok]
  unfold ya
  rw [if_pos (by omega)]
theorem Xz (K n : Nat) (h : n < 4294967296) (hK : 8 < K) : xG.m K (n : Int) = .ok (z6 4 n) := by
  unfold xG.m
  have := ua K n 4 w4 (by omega) hK
  rw [show ((4 : Nat) : Int) = 4 from rfl] at this
  rw [zZ (by omega) (by omega), this, qG.bind_ok]
  unfold ya
  rw [if_pos (by omega)]
theorem Zq (K n : Nat) (h : n < 65536) (hK : 8 < K) : zD.m K (n : Int) = .ok (z6 2 n) := by
  unfold zD.m
  have := ua K n 2 w2 (by omega) hK
  rw [show ((2 : Nat) : Int) = 2 from rfl] at this
  rw [zZ (by omega) (by omega), this, qG.bind_ok]
  unfold ya
  rw [if_pos (by omega)]
def zR (kind n : Nat) : List UInt8 := (((z6 4 kind ++ z6 2 n) ++ z6 2 (16 * 2 ^ n.log2)) ++ z6 2 n.log2) ++ z6 2 (16 * (n - 2 ^ n.log2))
theorem z3 (kind n : Nat) : (zR kind n).length = 12 := by simp [zR, zz]
theorem Q9 (K kind n : Nat) (hk : kind < 4294967296) (hn : n ≤ 1000) (hK : 8 < K) : ∀ (k e : Nat), 2 ^ e ≤ n → n < e + k →
    zu.l1 K (kind : Int) (n : Int) k ((2 ^ e : Nat) : Int) (e : Int) = .ok (zR kind n) ∧ zk.l1 K (kind : Int) (n : Int) k ((2 ^ e : Nat) : Int) (e : Int) = .ok (zR kind n) := by
  intro k
  induction k with
  | zero =>
    intro e h1 h2
    have := Nat.lt_two_pow_self (n := e)
    omega
  | succ k ih =>
    intro e h1 h2
    have hlt := Nat.lt_two_pow_self (n := e)
    have e2 : qC ((2 : Int) * ((2 ^ e : Nat) : Int)) = ((2 ^ (e + 1) : Nat) : Int) := by rw [qz (by omega) (by omega), Nat.pow_succ]; omega
    have e2' : qC (((2 ^ e : Nat) : Int) * 2) = ((2 ^ (e + 1) : Nat) : Int) := by rw [qz (by omega) (by omega), Nat.pow_succ]; omega
    have e1 : qC ((e : Int) + 1) = ((e + 1 : Nat) : Int) := by rw [qz (by omega) (by omega)]; omega
    rw [zu.l1, zk.l1, qH, qH, e2]
    by_cases hc : 2 ^ (e + 1) ≤ n
    · rw [if_pos (by omega), if_pos (by omega), qJ, qJ, qJ, qJ, e1, e2']
      exact ih (e + 1) hc (by omega)
    · rw [if_neg (by omega), if_neg (by omega)]
      have hlog : n.log2 = e := (Nat.log2_eq_iff (by omega)).2 ⟨h1, by omega⟩
      have e3 : wr .i64 (kind : Int) = (kind : Int) := xg (by omega) (by omega)
      have e4 : qC ((16 : Int) * ((2 ^ e : Nat) : Int)) = ((16 * 2 ^ e : Nat) : Int) := by rw [qz (by omega) (by omega)]; omega
      have e5 : qC ((16 : Int) * qC ((n : Int) - ((2 ^ e : Nat) : Int))) = ((16 * (n - 2 ^ e) : Nat) : Int) := by
        rw [qz (x := (n : Int) - _) (by omega) (by omega), qz (by omega) (by omega)]; omega
      unfold zR
      rw [hlog]
      constructor
      · rw [e3, u3 K kind hk hK, qG.bind_ok, u1 K n (by omega) hK, qG.bind_ok, zr (by simp [zz]), qq, e4, u1 K _ (by omega) hK, qG.bind_ok, zr (by simp [zz]), qq,
          u1 K e (by omega) hK, qG.bind_ok, zr (by simp [zz]), qq, e5, u1 K _ (by omega) hK, qG.bind_ok, zr (by simp [zz]), qq, qJ]
      · unfold zk.j2
        rw [e3, Xz K kind hk hK, qG.bind_ok, Zq K n (by omega) hK, qG.bind_ok, zr (by simp [zz]), qq, e4, Zq K _ (by omega) hK, qG.bind_ok, zr (by simp [zz]), qq,
          Zq K e (by omega) hK, qG.bind_ok, zr (by simp [zz]), qq, e5, Zq K _ (by omega) hK, qG.bind_ok, zr (by simp [zz]), qq, qJ]
theorem v8 (K kind n : Nat) (hk : kind < 4294967296) (h1 : 1 ≤ n) (hn : n ≤ 1000) (hK : 1000 < K) : zu.m K (kind : Int) (n : Int) = .ok (zR kind n) :=
  (Q9 K kind n hk hn (by omega) K 0 (by simpa using h1) (by omega)).1
def Xe (p : Option (List UInt8)) (t : Tb) : Bool := vg t.Tag_ && ((match p with | none => true | some q => Op.bytesLess q t.Tag_) && decide (t.Data_.length ≤ 16777216))
def vE : Option (List UInt8) → List Tb → Bool
  | _, [] => true
  | p, t :: r => Xe p t && vE (some t.Tag_) r
def zc : List Tb → Nat
  | [] => 0
  | t :: r => zy t.Data_.length + zc r
def y4 (D : List Tb) : Option (List UInt8) := D.getLast?.map (·.Tag_)
theorem jo (D : List Tb) (t : Tb) : y4 (D ++ [t]) = some t.Tag_ := by simp [y4]
theorem Q7 (K : Nat) (l : List Tb) (hl : l.length ≤ 100000) (hb : ∀ t ∈ l, t.Tag_.length ≤ 9223372036854775807 ∧ t.Tag_.length < K) : ∀ (k : Nat) (D T : List Tb) (all : Nat), D ++ T = l → T.length < k → all + zc T < 1099511627776 →
    qA.l1 K l k (all : Int) (D.length : Int) = .ok (vE (y4 D) T && ((decide (0 < l.length) && decide (l.length ≤ 1000)) && decide (all + zc T < 1073741824))) := by
  intro k
  induction k with
  | zero => intro D T all _ h; omega
  | succ k ih =>
    intro D T all h1 hk hall
    have hlen : D.length + T.length = l.length := by rw [← h1]; simp
    rw [qA.l1, qH]
    cases T with
    | nil =>
      rw [if_neg (by simp only [List.length_nil] at hlen; omega)]
      unfold qA.j3
      rw [qJ, vE, Bool.true_and, zc, Nat.add_zero]
      congr 1
      rw [show decide ((l.length : Int) > 0) = decide (0 < l.length) from by rw [decide_eq_decide]; omega, show decide ((l.length : Int) ≤ 1000) = decide (l.length ≤ 1000) from by rw [decide_eq_decide]; omega,
        show decide ((all : Int) < 1073741824) = decide (all < 1073741824) from by rw [decide_eq_decide]; omega]
    | cons t T =>
      simp only [List.length_cons] at hlen hk
      rw [zc] at hall
      have e1 : rd l (D.length : Int) = t := by rw [← h1]; exact jY D t T rfl
      have ht := hb t (by rw [← h1]; simp)
      have e3 : qC ((D.length : Int) + 1) = ((D ++ [t]).length : Int) := by rw [qz (by omega) (by omega)]; simp
      have hup : t.Data_.length ≤ zy t.Data_.length := by unfold zy; omega
      have next : qA.j2 K (qA.l1 K l k) l (all : Int) (D.length : Int) false = .ok (vE (some t.Tag_) T && ((decide (0 < l.length) && decide (l.length ≤ 1000)) && decide (all + zc (t :: T) < 1073741824))) := by
        unfold qA.j2
        rw [cond_false, e1, yC K _ (by omega), qG.bind_ok, qz (by omega) (by omega), qJ, e3, show (all : Int) + ((zy t.Data_.length : Nat) : Int) = ((all + zy t.Data_.length : Nat) : Int) by omega,
          ih (D ++ [t]) T _ (by rw [← h1]; simp) (by omega) (by omega), jo, zc, Nat.add_assoc]
      have stop : ∀ g, qA.j2 K g l (all : Int) (D.length : Int) true = .ok false := fun g => rfl
      have eD : decide (((t.Data_.length : Nat) : Int) > 16777216) = !decide (t.Data_.length ≤ 16777216) := by
        rw [Bool.eq_iff_iff]; simp only [Bool.not_eq_true', decide_eq_true_eq, decide_eq_false_iff_not]; omega
      rw [if_pos (by omega), zK (by omega), qq, e1, u2 K _ ht.1 ht.2, qG.bind_ok, eD, vE]
      unfold Xe
      cases htag : vg t.Tag_ with
      | false => rw [cond_false, stop, Bool.false_and, Bool.false_and, Bool.false_and]
      | true =>
        rw [cond_true, qH, Bool.true_and]
        have dcase : ∀ b : Bool, qA.j2 K (qA.l1 K l k) l (all : Int) (D.length : Int) (!b) = .ok ((b && vE (some t.Tag_) T) && ((decide (0 < l.length) && decide (l.length ≤ 1000)) && decide (all + zc (t :: T) < 1073741824))) := by
          intro b
          cases b with
          | false => rw [Bool.not_false, stop, Bool.false_and, Bool.false_and]
          | true => rw [Bool.not_true, next, Bool.true_and]
        rcases List.eq_nil_or_concat D with rfl | ⟨D', q, rfl⟩
        · rw [if_neg (by simp), dcase]; rfl
        · have e4 : qC (((D'.concat q).length : Int) - 1) = (D'.length : Int) := by rw [qz (by omega) (by omega)]; simp
          have e5 : rd l (D'.length : Int) = q := by rw [← h1]; simp only [List.concat_eq_append, List.append_assoc, List.singleton_append]; exact jY D' q _ rfl
          have hi : (D'.concat q).length = D'.length + 1 := by simp
          rw [if_pos (by rw [hi]; omega), e4, zK (by rw [hi] at hlen; omega), qq, e5, yn]
          have ep : y4 (D'.concat q) = some q.Tag_ := by rw [List.concat_eq_append]; exact jo D' q
          rw [ep]
          dsimp only
          cases hless : Op.bytesLess q.Tag_ t.Tag_ with
          | false => rw [cond_false, stop, Bool.false_and, Bool.false_and, Bool.false_and]
          | true => rw [cond_true, dcase, Bool.true_and]
theorem QK (K : Nat) (l : List Tb) (hl : l.length ≤ 100000) (hb : ∀ t ∈ l, t.Tag_.length ≤ 9223372036854775807 ∧ t.Tag_.length < K) (hs : zc l < 1073741824) (hK : l.length < K) :
    qA.m K l = .ok (vE none l && (decide (0 < l.length) && decide (l.length ≤ 1000))) := by
  have := Q7 K l hl hb K [] l 0 rfl hK (by omega)
  rw [Nat.zero_add, decide_eq_true hs, Bool.and_true] at this
  exact this
def uf : List Tb → Nat
  | [] => 0
  | t :: r => t.Data_.length + uf r
theorem QX (K : Nat) (l : List Tb) (hl : l.length ≤ 1001) : ∀ (k : Nat) (D T : List Tb) (n : Nat), D ++ T = l → T.length < k → n ≤ 105000 →
    ∃ b, qI.l1 K l k (n : Int) (D.length : Int) = .ok b ∧ (b = true → n + uf T ≤ 105000 ∧ ∀ t ∈ T, t.Data_.length ≤ 5000) := by
  intro k
  induction k with
  | zero => intro D T n _ h; omega
  | succ k ih =>
    intro D T n h1 hk hn
    have hlen : D.length + T.length = l.length := by rw [← h1]; simp
    rw [qI.l1, qH]
    cases T with
    | nil =>
      rw [if_neg (by simp only [List.length_nil] at hlen; omega)]
      exact ⟨true, rfl, fun _ => ⟨by simpa [uf] using hn, by simp⟩⟩
    | cons t T =>
      simp only [List.length_cons] at hlen hk
      have e1 : rd l (D.length : Int) = t := by rw [← h1]; exact jY D t T rfl
      have e3 : qC ((D.length : Int) + 1) = ((D ++ [t]).length : Int) := by rw [qz (by omega) (by omega)]; simp
      rw [if_pos (by omega), zK (by omega), qq, e1, jK, qH, qH]
      by_cases h5 : t.Data_.length > 5000
      · rw [if_pos (by omega)]; exact ⟨false, rfl, fun h => by cases h⟩
      · rw [if_neg (by omega)]
        by_cases h6 : n > 100000
        · rw [if_pos (by omega)]; exact ⟨false, rfl, fun h => by cases h⟩
        · rw [if_neg (by omega), qJ, qJ, e3, qz (by omega) (by omega), show (n : Int) + ((t.Data_.length : Nat) : Int) = ((n + t.Data_.length : Nat) : Int) by omega]
          obtain ⟨b, hb, h⟩ := ih (D ++ [t]) T (n + t.Data_.length) (by rw [← h1]; simp) (by omega) (by omega)
          refine ⟨b, hb, fun hbt => ?_⟩
          obtain ⟨q1, q2⟩ := h hbt
          refine ⟨by rw [uf]; omega, fun u hu => ?_⟩
          rcases List.mem_cons.1 hu with rfl | hu
          · omega
          · exact q2 u hu
theorem u9 : ∀ l : List Tb, zc l ≤ uf l + 3 * l.length
  | [] => by simp [zc]
  | t :: r => by
    have := u9 r
    rw [zc, uf, List.length_cons]; unfold zy; omega
theorem Xh (K : Nat) (l : List Tb) (hK : 1002 ≤ K) : ∃ b, qI.m K l = .ok b ∧ (b = true → l.length ≤ 1001 ∧ uf l ≤ 105000 ∧ zc l ≤ 108003 ∧ ∀ t ∈ l, t.Data_.length ≤ 5000) := by
  unfold qI.m
  rw [qH]
  by_cases h : l.length > 1001
  · rw [if_pos (by omega)]; exact ⟨false, rfl, fun h => by cases h⟩
  · rw [if_neg (by omega)]
    obtain ⟨b, hb, h2⟩ := QX K l (by omega) K [] l 0 rfl (by omega) (by omega)
    refine ⟨b, hb, fun hbt => ?_⟩
    obtain ⟨q1, q2⟩ := h2 hbt
    have := u9 l
    exact ⟨by omega, by omega, by omega, q2⟩
theorem Zt (K : Nat) (l : List Tb) (hl : l.length ≤ 100000) : ∀ (k : Nat) (D T : List Tb), D ++ T = l → T.length < k → qP.l1 K l l k (D.length : Int) = .ok true := by
  intro k
  induction k with
  | zero => intro D T _ h; omega
  | succ k ih =>
    intro D T h1 hk
    have hlen : D.length + T.length = l.length := by rw [← h1]; simp
    rw [qP.l1, qH]
    cases T with
    | nil => rw [if_neg (by simp only [List.length_nil] at hlen; omega)]
    | cons t T =>
      simp only [List.length_cons] at hlen hk
      have e3 : qC ((D.length : Int) + 1) = ((D ++ [t]).length : Int) := by rw [qz (by omega) (by omega)]; simp
      rw [if_pos (by omega), zK (by omega), qq, qq]
      simp only [beq_self_eq_true, Bool.and_self, Bool.not_true, cond_false, qJ]
      rw [e3]
      exact ih (D ++ [t]) T (by rw [← h1]; simp) (by omega)
theorem same (K : Nat) (l : List Tb) (hl : l.length ≤ 100000) (hK : l.length < K) : qP.m K l l = .ok true := by
  unfold qP.m
  rw [show ((l.length : Int) != (l.length : Int)) = false from by simp, cond_false]
  exact Zt K l hl K [] l rfl hK
end Go.Pn

set_option maxRecDepth 100000
namespace Go.Pn
open Go Go.Sl Go.Pu Go.Mo
def yN (at_ : Nat) (t : Tb) : List UInt8 := ((t.Tag_ ++ z6 4 (xu t.Data_)) ++ z6 4 at_) ++ z6 4 t.Data_.length
def yZ (t : Tb) : List UInt8 := t.Data_ ++ List.replicate (zy t.Data_.length - t.Data_.length) 0
theorem y2 (t : Tb) : (yZ t).length = zy t.Data_.length := by simp [yZ]; unfold zy; omega
def zj : Nat → List Tb → List UInt8
  | _, [] => []
  | at_, t :: r => yN at_ t ++ zj (at_ + zy t.Data_.length) r
def zm : List Tb → List UInt8
  | [] => []
  | t :: r => yZ t ++ zm r
theorem yL : ∀ l : List Tb, (zm l).length = zc l
  | [] => rfl
  | t :: r => by rw [zm, List.length_append, y2, yL r, zc]
theorem j6 {at_ : Nat} {t : Tb} (h : t.Tag_.length = 4) : (yN at_ t).length = 16 := by simp [yN, zz, h]
theorem yc : ∀ (at_ : Nat) (l : List Tb), (∀ t ∈ l, t.Tag_.length = 4) → (zj at_ l).length = 16 * l.length
  | _, [], _ => rfl
  | at_, t :: r, h => by
    rw [zj, List.length_append, j6 (h t (by simp)), yc _ r (fun u hu => h u (by simp [hu])), List.length_cons]; omega
def q9 (kind : Nat) (l : List Tb) : List UInt8 := zR kind l.length ++ zj (12 + 16 * l.length) l ++ zm l
theorem yt : ∀ (p : Option (List UInt8)) (l : List Tb), vE p l = true → ∀ t ∈ l, vg t.Tag_ = true ∧ t.Data_.length ≤ 16777216
  | _, [], _ => by simp
  | p, t :: r, h => by
    rw [vE, Bool.and_eq_true] at h
    intro u hu
    rcases List.mem_cons.1 hu with rfl | hu
    · have h2 := h.1
      unfold Xe at h2
      simp only [Bool.and_eq_true, decide_eq_true_eq] at h2
      exact ⟨h2.1, h2.2.2⟩
    · exact yt _ r h.2 u hu
theorem jy (a b : List UInt8) : a.map xN ++ b.map xN = (a ++ b).map xN := by rw [List.map_append]
theorem XC (n : Nat) (h : n ≤ 1000) : QR ([0] : List UInt8) (n : Int) = .ok (List.replicate n 0) := by
  unfold QR
  rw [show (decide (0 ≤ (n : Int)) && decide ((n : Int) ≤ 9223372036854775807) && decide (([0] : List UInt8).length * (n : Int).toNat ≤ 140737488355328)) = true from by
    simp only [Bool.and_eq_true, decide_eq_true_eq, List.length_singleton, Int.toNat_natCast]; omega, qq, Int.toNat_natCast]
  congr 1
  induction n with
  | zero => rfl
  | succ n ih => rw [List.replicate_succ, List.flatten_cons, ih (by omega)]; rfl
theorem vG (K kind : Nat) (l : List Tb) (hk : kind < 4294967296) (hl : 1 ≤ l.length ∧ l.length ≤ 1000) (htag : ∀ t ∈ l, t.Tag_.length = 4) (hd : ∀ t ∈ l, t.Data_.length < K) (hK : 1000 < K) :
    ∀ (k : Nat) (D T : List Tb) (R B : List UInt8), D ++ T = l → T.length < k → B.length + zc T < 1073741824 → R.length = 16 * D.length →
    qD.l2 K (kind : Int) l ((12 + 16 * l.length : Nat) : Int) k (R.map xN) (B.map xN) (D.length : Int) =
      .ok (zR kind l.length ++ (R ++ zj (12 + 16 * l.length + B.length) T) ++ (B ++ zm T), 0) := by
  intro k
  induction k with
  | zero => intro D T _ _ _ h; omega
  | succ k ih =>
    intro D T R B h1 hk2 hB hR
    have hlen : D.length + T.length = l.length := by rw [← h1]; simp
    rw [qD.l2, qH]
    cases T with
    | nil =>
      rw [if_neg (by simp only [List.length_nil] at hlen; omega)]
      simp only [List.length_nil] at hlen
      unfold qD.j3 zd.m
      rw [v8 K kind l.length hk hl.1 hl.2 hK, qG.bind_ok, qJ, qG.bind_ok, xp, zr (by rw [z3]; omega), qq, qJ, qG.bind_ok, xp,
        zr (by rw [List.length_append, z3]; omega), qq, qJ, zj, zm, List.append_nil, List.append_nil]
    | cons t T =>
      simp only [List.length_cons] at hlen hk2
      rw [zc] at hB
      have e1 : rd l (D.length : Int) = t := by rw [← h1]; exact jY D t T rfl
      have htl := htag t (by rw [← h1]; simp)
      have hdl := hd t (by rw [← h1]; simp)
      have hup : t.Data_.length ≤ zy t.Data_.length ∧ zy t.Data_.length ≤ t.Data_.length + 3 := by unfold zy; omega
      have hw := uk t.Data_
      have e3 : qC ((D.length : Int) + 1) = ((D ++ [t]).length : Int) := by rw [qz (by omega) (by omega)]; simp
      have eat : qC (((12 + 16 * l.length : Nat) : Int) + (((B.map xN).length : Nat) : Int)) = ((12 + 16 * l.length + B.length : Nat) : Int) := by rw [List.length_map, qz (by omega) (by omega)]; omega
      have epd : qC (((zy t.Data_.length : Nat) : Int) - ((t.Data_.length : Nat) : Int)) = ((zy t.Data_.length - t.Data_.length : Nat) : Int) := by rw [qz (by omega) (by omega)]; omega
      have lw : ∀ A, (z6 4 A).length = 4 := zz 4
      rw [if_pos (by omega), zK (by omega), qq, e1, vu K _ (by omega) hdl, qG.bind_ok, xg (x := ((xu t.Data_ : Nat) : Int)) (by omega) (by omega), u3 K _ hw (by omega), qG.bind_ok, zr (by rw [htl, lw]; omega), qq]
      unfold zB.m qZ.m strings_Repeat.m
      rw [qJ, qG.bind_ok, eat, u3 K _ (by omega) (by omega), qG.bind_ok, zr (by simp only [List.length_append, htl, lw]; omega), qq, u3 K _ (by omega) (by omega), qG.bind_ok, zr (by simp only [List.length_append, htl, lw]; omega), qq,
        xV (by simp only [List.length_append, List.length_map, htl, lw]; omega), qq, qJ, qJ, qG.bind_ok]
      dsimp only
      rw [yC K _ (by omega), qG.bind_ok, epd, XC _ (by omega), qG.bind_ok, qG.bind_ok, zr (by rw [List.length_replicate]; omega), qq, xV (by simp only [List.length_append, List.length_map, List.length_replicate]; omega), qq, qJ, qJ, qG.bind_ok]
      dsimp only
      rw [e3, jy, jy, show ((t.Tag_ ++ z6 4 (xu t.Data_)) ++ z6 4 (12 + 16 * l.length + B.length)) ++ z6 4 t.Data_.length = yN (12 + 16 * l.length + B.length) t from rfl,
        show t.Data_ ++ List.replicate (zy t.Data_.length - t.Data_.length) 0 = yZ t from rfl, ih (D ++ [t]) T _ _ (by rw [← h1]; simp) (by omega) (by rw [List.length_append, y2]; omega) (by rw [List.length_append, j6 htl, hR, List.length_append, List.length_singleton]; omega),
        zj, zm, List.length_append, y2, List.append_assoc R, List.append_assoc B, Nat.add_assoc (12 + 16 * l.length)]
theorem ZC (kind : Nat) : (((kind : Int) == (65536 : Int)) || ((kind : Int) == (1330926671 : Int))) = decide (kind = 65536 ∨ kind = 1330926671) := by
  rw [Bool.eq_iff_iff]; simp only [Bool.or_eq_true, beq_iff_eq, decide_eq_true_eq]; omega
def vL (kind : Nat) (l : List Tb) : List UInt8 × Int :=
  if (kind = 65536 ∨ kind = 1330926671) ∧ vE none l = true ∧ 0 < l.length ∧ l.length ≤ 1000 then (q9 kind l, 0) else ([], 1)
theorem Qj (K kind : Nat) (l : List Tb) (hk : kind < 4294967296) (hl : l.length ≤ 100000) (hb : ∀ t ∈ l, t.Tag_.length ≤ 9223372036854775807 ∧ t.Tag_.length < K) (hs : zc l < 1073741824) (hd : ∀ t ∈ l, t.Data_.length < K) (hK : 100000 < K) :
    qD.m K (kind : Int) l = .ok (vL kind l) := by
  unfold qD.m z5.m vL
  rw [ZC, qJ, qG.bind_ok]
  have dl : decide ((l.length : Int) > 1000) = !decide (l.length ≤ 1000) := by rw [Bool.eq_iff_iff]; simp only [Bool.not_eq_true', decide_eq_true_eq, decide_eq_false_iff_not]; omega
  rw [dl]
  by_cases h1 : kind = 65536 ∨ kind = 1330926671
  · rw [decide_eq_true h1, Bool.not_true, Bool.false_or, yn, qH]
    by_cases h2 : l.length ≤ 1000
    · rw [if_pos h2, QK K l hl hb hs (by omega), qG.bind_ok, decide_eq_true h2, Bool.and_true]
      unfold qD.j1
      cases h3 : vE none l with
      | false => rw [if_neg (by simp)]; rfl
      | true =>
        by_cases h4 : 0 < l.length
        · rw [decide_eq_true h4, if_pos ⟨h1, rfl, h4, h2⟩, Bool.true_and, Bool.not_true, cond_false, qJ]
          have ef : qC ((12 : Int) + qC ((16 : Int) * (l.length : Int))) = ((12 + 16 * l.length : Nat) : Int) := by rw [qz (x := 16 * _) (by omega) (by omega), qz (by omega) (by omega)]; omega
          have ht := yt none l h3
          have := vG K kind l hk ⟨h4, h2⟩ (fun t h => xI (ht t h).1) hd (by omega) K [] l [] [] rfl (by omega) (by simpa using hs) rfl
          rw [ef]
          exact this
        · rw [decide_eq_false h4, if_neg (fun h => h4 h.2.2.1)]; rfl
    · rw [if_neg h2, if_neg (fun h => h2 h.2.2.2)]; rfl
  · rw [decide_eq_false h1, if_neg (fun h => h1 h.1)]; rfl
end Go.Pn

set_option maxRecDepth 100000
namespace Go.Pn
open Go Go.Sl Go.Pu Go.Mo
abbrev Sp := qX
structure Q1 (S : List Sp) : Prop where
  each : ∀ x ∈ S, 0 ≤ x.Lo_ ∧ x.Lo_ < x.Hi_ ∧ x.Hi_ < 2305843009213693952
  srt : S.Pairwise fun x y => x.Hi_ ≤ y.Lo_
def jV (S : List Sp) (lo hi : Int) : List Sp := S.takeWhile (fun x => decide (x.Hi_ ≤ lo)) ++ ⟨lo, hi⟩ :: S.dropWhile (fun x => decide (x.Hi_ ≤ lo))
def xC (S : List Sp) (lo hi : Int) : Bool := S.any fun x => decide (lo < x.Hi_) && decide (x.Lo_ < hi)
theorem Qz (S : List Sp) (lo hi : Int) : (jV S lo hi).length = S.length + 1 := by
  have := congrArg List.length (List.takeWhile_append_dropWhile (p := fun x : Sp => decide (x.Hi_ ≤ lo)) (l := S))
  rw [List.length_append] at this
  unfold jV
  rw [List.length_append, List.length_cons]; omega
theorem v1 {S : List Sp} {lo hi : Int} {x : Sp} : x ∈ jV S lo hi ↔ x = ⟨lo, hi⟩ ∨ x ∈ S := by
  have e := List.takeWhile_append_dropWhile (p := fun x : Sp => decide (x.Hi_ ≤ lo)) (l := S)
  unfold jV
  constructor
  · intro h
    rcases List.mem_append.1 h with h | h
    · right; rw [← e]; exact List.mem_append_left _ h
    · rcases List.mem_cons.1 h with h | h
      · exact .inl h
      · right; rw [← e]; exact List.mem_append_right _ h
  · rintro (rfl | h)
    · exact List.mem_append_right _ (List.mem_cons_self ..)
    · rw [← e] at h
      rcases List.mem_append.1 h with h | h
      · exact List.mem_append_left _ h
      · exact List.mem_append_right _ (List.mem_cons_of_mem _ h)
theorem Z6 {S : List Sp} (h : Q1 S) (lo : Int) : ∃ A B, S = A ++ B ∧ (∀ x ∈ A, x.Hi_ ≤ lo) ∧ (∀ x ∈ B, lo < x.Hi_) ∧ ∀ hi, jV S lo hi = A ++ ⟨lo, hi⟩ :: B := by
  refine ⟨S.takeWhile (fun x => decide (x.Hi_ ≤ lo)), S.dropWhile (fun x => decide (x.Hi_ ≤ lo)), List.takeWhile_append_dropWhile.symm, ?_, ?_, fun _ => rfl⟩
  · intro x hx
    have : ∀ (l : List Sp), x ∈ l.takeWhile (fun x => decide (x.Hi_ ≤ lo)) → x.Hi_ ≤ lo := by
      intro l
      induction l with
      | nil => intro h; simp at h
      | cons y l ih =>
        intro hm
        rw [List.takeWhile_cons] at hm
        cases hy : decide (y.Hi_ ≤ lo) with
        | false => rw [hy] at hm; simp at hm
        | true =>
          rw [hy] at hm
          rcases List.mem_cons.1 hm with rfl | hm
          · exact of_decide_eq_true hy
          · exact ih hm
    exact this S hx
  · have hs := h.srt
    have he := h.each
    clear h
    induction S with
    | nil => intro x hx; simp at hx
    | cons y S ih =>
      rw [List.pairwise_cons] at hs
      intro x hx
      rw [List.dropWhile_cons] at hx
      cases hy : decide (y.Hi_ ≤ lo) with
      | false =>
        rw [hy] at hx
        have hy2 : ¬ y.Hi_ ≤ lo := of_decide_eq_false hy
        rcases List.mem_cons.1 hx with rfl | hx
        · omega
        · have h1 := hs.1 x hx
          have h2 := he x (List.mem_cons_of_mem _ hx)
          omega
      | true =>
        rw [hy] at hx
        exact ih hs.2 (fun z hz => he z (List.mem_cons_of_mem _ hz)) x hx
theorem Q1.ins {S : List Sp} (h : Q1 S) {lo hi : Int} (h0 : 0 ≤ lo) (h1 : lo < hi) (h2 : hi < 2305843009213693952) (hc : xC S lo hi = false) : Q1 (jV S lo hi) := by
  obtain ⟨A, B, hS, hA, hB, he⟩ := Z6 h lo
  have hno : ∀ x ∈ S, ¬ (lo < x.Hi_ ∧ x.Lo_ < hi) := by
    intro x hx hh
    have : xC S lo hi = true := List.any_eq_true.2 ⟨x, hx, by simp only [Bool.and_eq_true, decide_eq_true_eq]; exact hh⟩
    rw [this] at hc; cases hc
  refine ⟨fun x hx => ?_, ?_⟩
  · rcases v1.1 hx with rfl | hx
    · exact ⟨h0, h1, h2⟩
    · exact h.each x hx
  · rw [he hi]
    have hs := h.srt
    rw [hS] at hs
    obtain ⟨p1, p2, p3⟩ := List.pairwise_append.1 hs
    refine List.pairwise_append.2 ⟨p1, List.pairwise_cons.2 ⟨fun y hy => ?_, p2⟩, fun x hx y hy => ?_⟩
    · have q1 := hB y hy
      have q2 := hno y (by rw [hS]; exact List.mem_append_right _ hy)
      show hi ≤ y.Lo_
      omega
    · rcases List.mem_cons.1 hy with rfl | hy
      · exact hA x hx
      · exact p3 x hx y hy
abbrev It := qa
theorem QO {its : List It} {i : Nat} (h : i < its.length) : (rd its (i : Int)).span_ = (its.map (·.span_))[i]'(by simpa using h) := by
  rw [QP h, List.getElem_map]
theorem Q8 (K : Nat) (its : List It) (S A B : List Sp) (hS : its.map (·.span_) = S) (hAB : S = A ++ B) (lo : Int) (hA : ∀ x ∈ A, x.Hi_ ≤ lo) (hB : ∀ x ∈ B, lo < x.Hi_) (hl : its.length ≤ 1000000) :
    ∀ (k a b : Nat), a ≤ A.length → A.length ≤ b → b ≤ its.length → b - a < k → qn.l1 K ⟨its⟩ lo k (a : Int) (b : Int) = .ok (A.length : Int) := by
  intro k
  induction k with
  | zero => intro a b _ _ _ h; omega
  | succ k ih =>
    intro a b h1 h2 h3 h4
    rw [qn.l1, qH]
    by_cases hlt : a < b
    · have em : vc .i64 (qC ((a : Int) + (b : Int))) 2 = (((a + b) / 2 : Nat) : Int) := by
        rw [qz (by omega) (by omega), show (a : Int) + (b : Int) = ((a + b : Nat) : Int) by omega]
        exact QA (b := 2) (by omega) (by decide)
      have hm : (a + b) / 2 < its.length := by omega
      have hml : (a + b) / 2 < (its.map (·.span_)).length := by simpa using hm
      rw [if_pos (by omega), em, qJ]
      unfold qU.m
      dsimp only
      rw [zK hm, qq, qJ, qG.bind_ok, QO hm, qH]
      by_cases hc : (a + b) / 2 < A.length
      · have hx : (its.map (·.span_))[(a + b) / 2] ∈ A := by
          have : (its.map (·.span_))[(a + b) / 2]? = A[(a + b) / 2]? := by rw [hS, hAB, List.getElem?_append_left hc]
          rw [List.getElem?_eq_getElem hml, List.getElem?_eq_getElem hc] at this
          rw [Option.some.inj this]; exact List.getElem_mem _
        have := hA _ hx
        rw [if_neg (by omega), qz (by omega) (by omega), qJ, show (((a + b) / 2 : Nat) : Int) + 1 = (((a + b) / 2 + 1 : Nat) : Int) by omega]
        exact ih _ _ (by omega) h2 h3 (by omega)
      · have hx : (its.map (·.span_))[(a + b) / 2] ∈ B := by
          have h5 : (its.map (·.span_))[(a + b) / 2]? = B[(a + b) / 2 - A.length]? := by rw [hS, hAB, List.getElem?_append_right (by omega)]
          rw [List.getElem?_eq_getElem hml] at h5
          exact List.mem_of_getElem? h5.symm
        have := hB _ hx
        rw [if_pos (by omega)]
        exact ih _ _ h1 (by omega) (by omega) (by omega)
    · rw [if_neg (by omega), show a = A.length by omega]
theorem QL (K : Nat) (its : List It) (S A B : List Sp) (hS : its.map (·.span_) = S) (hAB : S = A ++ B) (lo : Int) (hA : ∀ x ∈ A, x.Hi_ ≤ lo) (hB : ∀ x ∈ B, lo < x.Hi_) (hl : its.length ≤ 1000000) (hK : its.length < K) :
    qn.m K ⟨its⟩ lo = .ok (A.length : Int) := by
  unfold qn.m qQ.m
  rw [qG.bind_ok, qJ]
  have h1 := congrArg List.length hS
  have h2 := congrArg List.length hAB
  rw [List.length_map] at h1
  rw [List.length_append] at h2
  exact Q8 K its S A B hS hAB lo hA hB hl K 0 its.length (by omega) (by omega) (Nat.le_refl _) (by omega)
theorem uT {lo hi : Int} (h0 : 0 ≤ lo) (h1 : lo < hi) (h2 : hi < 2305843009213693952) : (((decide (lo ≥ (0 : Int))) && (decide (lo < hi))) && (decide (hi ≤ (4611686018427387904 : Int)))) = true := by
  simp only [Bool.and_eq_true, decide_eq_true_eq]; omega
theorem uZ (K : Nat) (its : List It) (S : List Sp) (hS : its.map (·.span_) = S) (hO : Q1 S) (lo hi : Int) (tag : List UInt8) (h0 : 0 ≤ lo) (h1 : lo < hi) (h2 : hi < 2305843009213693952) (hl : its.length ≤ 100000) (hK : its.length < K) :
    (xC S lo hi = true ∧ qV.m K ⟨its⟩ lo hi tag = .ok (5, its)) ∨
    (xC S lo hi = false ∧ ∃ its', its'.map (·.span_) = jV S lo hi ∧ qV.m K ⟨its⟩ lo hi tag = .ok (0, its')) := by
  obtain ⟨A, B, hAB, hA, hB, hins⟩ := Z6 hO lo
  have hf := QL K its S A B hS hAB lo hA hB (by omega) hK
  have hlS : its.length = S.length := by rw [← hS, List.length_map]
  have hlAB : S.length = A.length + B.length := by rw [hAB, List.length_append]
  have hcl : qf.m K ⟨its⟩ lo hi = .ok (xC S lo hi) := by
    unfold qf.m zE.m qQ.m qf.j1 qf.j2 qQ.m
    rw [hf, qG.bind_ok, uT h0 h1 h2, qJ, qG.bind_ok, cond_true, qG.bind_ok]
    dsimp only
    cases B with
    | nil =>
      rw [decide_eq_false (by simp only [List.length_nil] at hlAB; omega), cond_false]
      congr 1
      symm
      rw [← Bool.not_eq_true]
      intro h
      obtain ⟨x, hx, h⟩ := List.any_eq_true.1 h
      simp only [Bool.and_eq_true, decide_eq_true_eq] at h
      rw [hAB, List.append_nil] at hx
      have := hA x hx
      omega
    | cons b B =>
      simp only [List.length_cons] at hlAB
      have hr : (rd its (A.length : Int)).span_ = b := by
        rw [QO (by omega)]
        have : (its.map (·.span_))[A.length]? = some b := by rw [hS, hAB]; simp
        rw [List.getElem?_eq_getElem (by rw [List.length_map]; omega)] at this
        exact Option.some.inj this
      rw [decide_eq_true (by omega), cond_true, qG.bind_ok, zK (by omega), qq, hr]
      congr 1
      rw [Bool.eq_iff_iff, decide_eq_true_eq]
      have hb := hB b (by simp)
      constructor
      · intro h
        exact List.any_eq_true.2 ⟨b, by rw [hAB]; simp, by simp only [Bool.and_eq_true, decide_eq_true_eq]; omega⟩
      · intro h
        obtain ⟨x, hx, h⟩ := List.any_eq_true.1 h
        simp only [Bool.and_eq_true, decide_eq_true_eq] at h
        rw [hAB] at hx
        rcases List.mem_append.1 hx with hx | hx
        · have := hA x hx; omega
        · rcases List.mem_cons.1 hx with rfl | hx
          · exact h.2
          · have hs := hO.srt
            rw [hAB] at hs
            have h3 := (List.pairwise_cons.1 (List.pairwise_append.1 hs).2.1).1 x hx
            have h4 := hO.each b (by rw [hAB]; simp)
            omega
  unfold qV.m zE.m
  rw [uT h0 h1 h2, qJ, qG.bind_ok, Bool.not_true, qJ, cond_false, hcl, qG.bind_ok, hf, qG.bind_ok]
  cases xC S lo hi with
  | true => exact .inl ⟨rfl, rfl⟩
  | false =>
    refine .inr ⟨rfl, its.take A.length ++ [⟨⟨lo, hi⟩, tag⟩] ++ its.drop A.length, ?_, ?_⟩
    · rw [List.map_append, List.map_append, List.map_take, List.map_drop, hS, hAB, List.take_left, List.drop_left, ← hAB, hins hi]; simp
    · unfold qo.m Qy
      dsimp only
      rw [cond_false, show (decide (0 ≤ (A.length : Int)) && decide ((A.length : Int) ≤ (its.length : Int)) && room (its.length + [(⟨⟨lo, hi⟩, tag⟩ : It)].length) 32) = true from by
        rw [decide_eq_true (by omega), decide_eq_true (by omega), Bool.true_and, Bool.true_and, xV (by rw [List.length_singleton]; omega)], qq, Int.toNat_natCast]
      rfl
end Go.Pn

set_option maxRecDepth 100000
namespace Go.Pn
open Go Go.Sl Go.Pu Go.Mo
theorem Xl (K : Nat) : ∀ (k : Nat) (s : List UInt8), s.length < k → s.length < 1099511627776 →
    ∃ r n, qB.l1 K 0 k s = .ok r ∧ s = r ++ List.replicate n 0 ∧ (∀ r' x, r = r' ++ [x] → x ≠ 0) := by
  intro k
  induction k with
  | zero => intro s h; omega
  | succ k ih =>
    intro s h hs
    rw [qB.l1]
    rcases List.eq_nil_or_concat s with rfl | ⟨p, x, rfl⟩
    · exact ⟨[], 0, rfl, rfl, fun r' x h => by simp at h⟩
    · rw [List.concat_eq_append] at *
      have hl : (p ++ [x]).length = p.length + 1 := by simp
      have e1 : qC (((p ++ [x]).length : Int) - 1) = (p.length : Int) := by rw [hl, qz (by omega) (by omega)]; omega
      have e2 : rd (p ++ [x]) (p.length : Int) = x := jY p x [] rfl
      have himp : ∀ b, imp true b true = true := fun b => by cases b <;> rfl
      rw [e1, zK (by omega), himp, qq, e2, decide_eq_true (by omega), Bool.true_and, yl, xe (by omega) (by omega) (by omega), qq, qJ, jc, List.take_left]
      by_cases hx : x = 0
      · subst hx
        rw [if_pos (show ((UInt8.toNat 0 : Nat) : Int) = 0 from rfl)]
        obtain ⟨r, n, h1, h2, h3⟩ := ih p (by omega) (by omega)
        exact ⟨r, n + 1, h1, by rw [h2, List.replicate_succ']; simp, h3⟩
      · rw [if_neg (by intro h; apply hx; exact UInt8.toNat_inj.1 (by simpa using h))]
        refine ⟨p ++ [x], 0, rfl, by simp, fun r' y h => ?_⟩
        have := List.append_inj' h rfl
        simp only [List.cons.injEq, and_true] at this
        rw [← this.2]; exact hx
theorem Xk (K : Nat) : ∀ (k : Nat) (s : List UInt8), s.length < k → s.length < 1099511627776 →
    ∃ r n, qE.l1 K 0 k s = .ok r ∧ s = List.replicate n 0 ++ r := by
  intro k
  induction k with
  | zero => intro s h; omega
  | succ k ih =>
    intro s h hs
    rw [qE.l1]
    cases s with
    | nil => exact ⟨[], 0, rfl, rfl⟩
    | cons x p =>
      simp only [List.length_cons] at h hs
      have himp : ∀ b, imp true b true = true := fun b => by cases b <;> rfl
      have e2 : rd (x :: p) 0 = x := rfl
      have e3 : sub (x :: p) 1 ((x :: p).length : Int) = p := by
        have := ue (x :: p) 1
        rw [show ((1 : Nat) : Int) = 1 from rfl] at this
        rw [this]; rfl
      rw [uA (by omega) (by simp only [List.length_cons]; omega), himp, qq, e2, decide_eq_true (by simp only [List.length_cons]; omega), Bool.true_and, yl, xe (by omega) (by simp only [List.length_cons]; omega) (by omega), qq, qJ, e3]
      by_cases hx : x = 0
      · subst hx
        rw [if_pos (show ((UInt8.toNat 0 : Nat) : Int) = 0 from rfl)]
        obtain ⟨r, n, h1, h2⟩ := ih p (by omega) (by omega)
        exact ⟨r, n + 1, h1, by rw [h2, List.replicate_succ]; simp⟩
      · rw [if_neg (by intro h; apply hx; exact UInt8.toNat_inj.1 (by simpa using h))]
        exact ⟨x :: p, 0, rfl, rfl⟩
def uo (s : List UInt8) : Bool := s.all fun x => x == 0
theorem uq (n : Nat) : uo (List.replicate n 0) = true := by simp [uo]
theorem QN (K : Nat) (s : List UInt8) (hs : s.length < 1099511627776) (hK : s.length < K) : ∃ r, zv.m K s = .ok r ∧ (r == []) = uo s := by
  unfold zv.m
  cases s with
  | nil => exact ⟨[], rfl, rfl⟩
  | cons x p =>
    obtain ⟨r, n, h1, h2, h3⟩ := Xl K K (x :: p) hK hs
    have hl : r.length ≤ (x :: p).length := by rw [h2]; simp
    obtain ⟨r2, m, h4, h5⟩ := Xk K K r (by omega) (by omega)
    rw [show ((x :: p == ([] : List UInt8)) || false) = false from rfl, cond_false, show inb (0 : Int) ([0] : List UInt8).length = true from rfl, qq]
    unfold qB.m qE.m
    rw [h1, qG.bind_ok, h4, qG.bind_ok]
    refine ⟨r2, rfl, ?_⟩
    rw [Bool.eq_iff_iff, beq_iff_eq]
    constructor
    · rintro rfl
      rw [List.append_nil] at h5
      rw [h2, h5]; simp [uo]
    · intro hz
      rw [h2] at hz
      unfold uo at hz
      rw [List.all_append, Bool.and_eq_true] at hz
      have hr : r = [] := by
        rcases List.eq_nil_or_concat r with h | ⟨r', y, h⟩
        · exact h
        · exfalso
          rw [List.concat_eq_append] at h
          have hy := h3 r' y h
          have := hz.1
          rw [h] at this
          simp at this
          exact hy this.2
      rw [hr] at h5
      have := congrArg List.length h5
      simp at this
      exact List.length_eq_zero_iff.1 (by omega)
def vf (s : List UInt8) (S : List Sp) (row : List UInt8) : Except Int (Tb × List Sp) :=
  if zC row 8 4 % 4 ≠ 0 ∨ zC row 12 4 > 16777216 then .error 3 else
  if ¬ zC row 8 4 + zy (zC row 12 4) ≤ s.length then .error 2 else
  if uo ((s.drop (zC row 8 4 + zC row 12 4)).take (zy (zC row 12 4) - zC row 12 4)) = false then .error 3 else
  if 0 < zC row 12 4 ∧ xC S (zC row 8 4 : Nat) ((zC row 8 4 + zy (zC row 12 4) : Nat) : Int) = true then .error 5 else
  if xu ((s.drop (zC row 8 4)).take (zC row 12 4)) ≠ zC row 4 4 then .error 4 else
  .ok (⟨row.take 4, (s.drop (zC row 8 4)).take (zC row 12 4)⟩, if 0 < zC row 12 4 then jV S (zC row 8 4 : Nat) ((zC row 8 4 + zy (zC row 12 4) : Nat) : Int) else S)
theorem Za {n : Nat} (h : n < 18446744073709551616) : yV .u64 (n : Int) 3 = ((n % 4 : Nat) : Int) := by
  have := Qv (a := n) (b := 3) h (by decide)
  rw [show ((3 : Nat) : Int) = 3 from rfl] at this
  rw [this, show n &&& 3 = n % 4 from Nat.and_two_pow_sub_one_eq_mod n 2]
theorem Qi (K : Nat) (s row : List UInt8) (base : Int) (its : List It) (S : List Sp) (hS : its.map (·.span_) = S) (hO : Q1 S) (hs : s.length ≤ 1000000) (hr : row.length = 16) (hb0 : 0 ≤ base) (hb1 : base < 140737488355328) (hl : its.length ≤ 100000) (hK : 2000000 < K) :
    match vf s S row with
    | .error e => e ≠ 0 ∧ ∃ its', qw.m K ⟨⟨s, 0⟩, ⟨its⟩⟩ ⟨row, base⟩ = .ok ([], [], e, its')
    | .ok (t, S') => ∃ its', its'.map (·.span_) = S' ∧ qw.m K ⟨⟨s, 0⟩, ⟨its⟩⟩ ⟨row, base⟩ = .ok (t.Tag_, t.Data_, 0, its') := by
  have hU := fun a ha => QY K row base a 4 w4 (by omega) ha hb0 hb1 (by omega)
  rw [show ((4 : Nat) : Int) = 4 from rfl] at hU
  have u4 := hU 4 (by omega)
  have u8 := hU 8 (by omega)
  have u12 := hU 12 (by omega)
  unfold ug at u4 u8 u12
  rw [if_pos (by omega)] at u4 u8 u12
  have b4 := jh row 4 4
  have b8 := jh row 8 4
  have b12 := jh row 12 4
  unfold qw.m qY.m vf
  have e4 : sub row 0 4 = row.take 4 := jc row 4
  rw [qG.bind_ok, xe (by omega) (by omega) (by dsimp only; omega), qq, qJ]
  dsimp only
  rw [e4]
  rw [show ((4 : Nat) : Int) = 4 from rfl] at u4
  rw [show ((8 : Nat) : Int) = 8 from rfl] at u8
  rw [show ((12 : Nat) : Int) = 12 from rfl] at u12
  rw [u4, qG.bind_ok]
  dsimp only
  rw [u8, qG.bind_ok]
  dsimp only
  rw [u12, qG.bind_ok]
  dsimp only
  generalize zC row 4 4 = sm at *
  generalize zC row 8 4 = a at *
  generalize zC row 12 4 = n at *
  have hup : n ≤ zy n ∧ zy n ≤ n + 3 := by unfold zy; omega
  rw [Za (by omega), jK, ym, qH]
  by_cases h1 : a % 4 ≠ 0 ∨ n > 16777216
  · rw [if_pos h1]
    refine ⟨by decide, its, ?_⟩
    rcases h1 with h | h
    · rw [if_neg (by omega)]
    · by_cases h2 : a % 4 = 0
      · rw [if_pos (by omega), if_pos (by omega)]
      · rw [if_neg (by omega)]
  · rw [if_neg h1, if_pos (show ((a % 4 : Nat) : Int) = 0 by omega), if_neg (show ¬ ((n : Int) > 16777216) by omega), xg (x := (n : Int)) (by omega) (by omega), xg (x := (a : Int)) (by omega) (by omega), yC K n (by omega), qG.bind_ok,
      y5 K s 0 a (zy n) (by omega) (by omega) (by omega) (by omega) (by omega)]
    by_cases h2 : a + zy n ≤ s.length
    · rw [if_pos h2, if_neg (fun h => h h2), qG.bind_ok]
      dsimp only
      unfold qw.j1 qY.m xf.m
      have htl : ((s.drop a).take (zy n)).length = zy n := by rw [List.length_take, List.length_drop]; omega
      have hdata : sub ((s.drop a).take (zy n)) 0 (n : Int) = (s.drop a).take n := by rw [jc, List.take_take, Nat.min_eq_left hup.1]
      have hrest : sub ((s.drop a).take (zy n)) (n : Int) (((s.drop a).take (zy n)).length : Int) = (s.drop (a + n)).take (zy n - n) := by
        rw [ue, List.drop_take, List.drop_drop]
      obtain ⟨r, ht1, ht2⟩ := QN K ((s.drop (a + n)).take (zy n - n)) (by rw [List.length_take]; omega) (by rw [List.length_take]; omega)
      have hdl : ((s.drop a).take n).length = n := by rw [List.length_take, List.length_drop]; omega
      rw [show ((0 : Int) != 0) = false from rfl, cond_false, qG.bind_ok, xe (by omega) (by omega) (by rw [htl]; omega), qq, qJ, qG.bind_ok, xe (by omega) (by rw [htl]; omega) (by omega), qq, hdata, hrest, ht1, qG.bind_ok, ht2]
      cases hz : uo ((s.drop (a + n)).take (zy n - n)) with
      | false => rw [if_pos rfl]; exact ⟨by decide, its, rfl⟩
      | true =>
        rw [if_neg (by decide), Bool.not_true, cond_false, qH]
        have hsum : ∀ its2 : List It, qw.j2 K (row.take 4) (sm : Int) ((s.drop a).take n) its2 = if xu ((s.drop a).take n) ≠ sm then .ok ([], [], 4, its2) else .ok (row.take 4, (s.drop a).take n, 0, its2) := by
          intro its2
          unfold qw.j2
          rw [vu K _ (by omega) (by omega), qG.bind_ok, xM (by omega) (by omega), ym]
          by_cases hw : xu ((s.drop a).take n) = sm
          · rw [if_pos (by omega), if_neg (fun h => h hw)]
          · rw [if_neg (by omega), if_pos hw]
        by_cases hn : 0 < n
        · rw [if_pos (show (n : Int) > 0 by omega), qJ, qG.bind_ok]
          dsimp only
          rw [htl, xg (x := (a : Int)) (by omega) (by omega), qz (by omega) (by omega), show (a : Int) + ((zy n : Nat) : Int) = ((a + zy n : Nat) : Int) by omega]
          rcases uZ K its S hS hO (a : Int) ((a + zy n : Nat) : Int) (row.take 4) (by omega) (by omega) (by omega) hl (by omega) with ⟨hc, hadd⟩ | ⟨hc, its', hm, hadd⟩
          · rw [hadd, hc, if_pos ⟨hn, rfl⟩]
            exact ⟨by decide, its, rfl⟩
          · rw [hadd, hc, if_neg (show ¬ (0 < n ∧ false = true) from fun h => by cases h.2), qG.bind_ok]
            dsimp only
            rw [show ((0 : Int) != 0) = false from rfl, cond_false, hsum]
            by_cases hw : xu ((s.drop a).take n) ≠ sm
            · rw [if_pos hw, if_pos hw]; exact ⟨by decide, its', rfl⟩
            · rw [if_neg hw, if_neg hw]; exact ⟨its', by rw [hm, if_pos hn], rfl⟩
        · rw [if_neg (show ¬ ((n : Int) > 0) by omega), if_neg (show ¬ (0 < n ∧ xC S (a : Int) ((a + zy n : Nat) : Int) = true) from fun h => hn h.1), hsum]
          by_cases hw : xu ((s.drop a).take n) ≠ sm
          · rw [if_pos hw, if_pos hw]; exact ⟨by decide, its, rfl⟩
          · rw [if_neg hw, if_neg hw]; exact ⟨its, by rw [hS, if_neg hn], rfl⟩
    · rw [if_neg h2, if_pos h2, qG.bind_ok]
      exact ⟨by decide, its, rfl⟩
def xX (s : List UInt8) (i : Nat) : List UInt8 := (s.drop (12 + 16 * i)).take 16
def xZ (s : List UInt8) (kind : Nat) : Nat → Nat → List Sp → List Tb → Nat → List UInt8 → Int × List Tb × Int
  | 0, _, _, out, all, _ => if all ≥ 1073741824 then (0, [], 3) else ((kind : Int), out, 0)
  | j + 1, i, S, out, all, last =>
    if (vg ((xX s i).take 4) && Op.bytesLess last ((xX s i).take 4)) = false then (0, [], 3) else
    match vf s S (xX s i) with
    | .error e => (0, [], e)
    | .ok (t, S') => xZ s kind j (i + 1) S' (out ++ [t]) (all + zy t.Data_.length) t.Tag_
theorem Zw {s row : List UInt8} {S S' : List Sp} {t : Tb} (hO : Q1 S) (hs : s.length ≤ 1000000) (h : vf s S row = .ok (t, S')) : Q1 S' ∧ S'.length ≤ S.length + 1 ∧ t.Data_.length ≤ 1000000 ∧ t.Tag_ = row.take 4 := by
  unfold vf at h
  split at h
  · cases h
  · split at h
    · cases h
    · split at h
      · cases h
      · split at h
        · cases h
        · split at h
          · cases h
          · rename_i h1 h2 h3 h4 h5
            simp only [Except.ok.injEq, Prod.mk.injEq] at h
            obtain ⟨rfl, rfl⟩ := h
            have hup : zC row 12 4 ≤ zy (zC row 12 4) := by unfold zy; omega
            refine ⟨?_, ?_, ?_, rfl⟩
            · split
              · rename_i hn
                refine hO.ins (by omega) (by omega) (by omega) ?_
                cases hc : xC S (zC row 8 4 : Nat) ((zC row 8 4 + zy (zC row 12 4) : Nat) : Int) with
                | false => rfl
                | true => exact absurd ⟨hn, hc⟩ h4
              · exact hO
            · split
              · rw [Qz]; omega
              · omega
            · show ((s.drop _).take _).length ≤ 1000000
              rw [List.length_take, List.length_drop]; omega
theorem v9 (K : Nat) (s : List UInt8) (kind n : Nat) (hk : kind < 4294967296) (hs : s.length ≤ 1000000) (hn : n ≤ 1000) (hsn : 12 + 16 * n ≤ s.length) (hK : 2000000 < K) : ∀ (j k i : Nat) (S : List Sp) (its : List It) (out : List Tb) (all : Nat) (last : List UInt8), i + j = n → j < k → its.map (·.span_) = S → Q1 S →
    S.length ≤ i + 1 → out.length = i → all ≤ 1000003 * i →
    qN.l2 K s (kind : Int) (n : Int) ((s.drop 12).take (16 * n)) 12 k its out (all : Int) last (i : Int) = .ok (xZ s kind j i S out all last) := by
  intro j
  induction j with
  | zero =>
    intro k i S its out all last h1 h2 hS hO hSl ho ha
    obtain ⟨k, rfl⟩ : ∃ m, k = m + 1 := ⟨k - 1, by omega⟩
    rw [qN.l2, qH, if_neg (by omega), xZ]
    unfold qN.j3
    rw [qH, xM (by omega) (by omega), qJ]
    by_cases hb : all ≥ 1073741824
    · rw [if_pos (by omega), if_pos hb]
    · rw [if_neg (by omega), if_neg hb]
  | succ j ih =>
    intro k i S its out all last h1 h2 hS hO hSl ho ha
    obtain ⟨k, rfl⟩ : ∃ m, k = m + 1 := ⟨k - 1, by omega⟩
    have e16 : qC ((16 : Int) * (i : Int)) = ((16 * i : Nat) : Int) := by rw [qz (by omega) (by omega)]; omega
    have hrl : (xX s i).length = 16 := by unfold xX; rw [List.length_take, List.length_drop]; omega
    have hsub := y5 K ((s.drop 12).take (16 * n)) 12 (16 * i) 16 (by rw [List.length_take]; omega) (by omega) (by omega) (by omega) (by omega)
    rw [show ((16 : Nat) : Int) = 16 from rfl, if_pos (by rw [List.length_take, List.length_drop]; omega)] at hsub
    have hrow : (((s.drop 12).take (16 * n)).drop (16 * i)).take 16 = xX s i := by
      unfold xX
      rw [List.drop_take, List.drop_drop, List.take_take, Nat.min_eq_left (by omega)]
    rw [hrow] at hsub
    have hitl : its.length ≤ 100000 := by have := congrArg List.length hS; rw [List.length_map] at this; omega
    have e4 : sub (xX s i) 0 4 = (xX s i).take 4 := jc _ 4
    have htl : ((xX s i).take 4).length = 4 := by rw [List.length_take]; omega
    rw [qN.l2, qH, if_pos (by omega), e16, hsub, qG.bind_ok, xZ]
    dsimp only
    unfold qY.m
    rw [qG.bind_ok, xe (by omega) (by omega) (by omega), qq, qJ, e4, u2 K _ (by omega) (by omega), qG.bind_ok, Qo, ← Bool.not_and, yn]
    cases hgood : (vg ((xX s i).take 4) && Op.bytesLess last ((xX s i).take 4)) with
    | false => rw [cond_false, if_pos rfl]
    | true =>
      rw [cond_true, if_neg (by decide)]
      have ht := Qi K s (xX s i) (12 + ((16 * i : Nat) : Int)) its S hS hO hs hrl (by omega) (by omega) hitl hK
      cases htab : vf s S (xX s i) with
      | error e =>
        rw [htab] at ht
        obtain ⟨he, its', hm⟩ := ht
        rw [hm, qG.bind_ok]
        dsimp only
        rw [ym, if_neg he]
      | ok p =>
        obtain ⟨t, S'⟩ := p
        rw [htab] at ht
        obtain ⟨its', hS', hm⟩ := ht
        obtain ⟨hO', hl', hd, htag⟩ := Zw hO hs htab
        have hup : zy t.Data_.length ≤ t.Data_.length + 3 := by unfold zy; omega
        have e3 : qC ((i : Int) + 1) = ((i + 1 : Nat) : Int) := by rw [qz (by omega) (by omega)]; omega
        rw [hm, qG.bind_ok]
        dsimp only
        rw [show ((0 : Int) != 0) = false from rfl, cond_false, yC K _ (by omega), qG.bind_ok, qz (by omega) (by omega), qJ, xV (by rw [List.length_singleton]; omega), qq, qJ, e3, show (all : Int) + ((zy t.Data_.length : Nat) : Int) = ((all + zy t.Data_.length : Nat) : Int) by omega]
        exact ih k (i + 1) S' its' (out ++ [t]) _ _ (by omega) (by omega) hS' hO' (by omega) (by rw [List.length_append, List.length_singleton]; omega) (by omega)
theorem Qn {t : List UInt8} (h : t ≠ []) : Op.bytesLess [] t = true := by
  cases t with
  | nil => exact absurd rfl h
  | cons _ _ => rfl
def j0 (s : List UInt8) : Int × List Tb × Int :=
  if s.length < 12 then (0, [], 2) else
  if ¬ ((zC s 0 4 = 65536 ∨ zC s 0 4 = 1330926671) ∧ 1 ≤ zC s 4 2 ∧ zC s 4 2 ≤ 1000 ∧ s.take 12 = zR (zC s 0 4) (zC s 4 2)) then (0, [], 3) else
  if s.length < 12 + 16 * zC s 4 2 then (0, [], 2) else
  xZ s (zC s 0 4) (zC s 4 2) 0 [⟨0, ((12 + 16 * zC s 4 2 : Nat) : Int)⟩] [] 0 []
theorem Zm (n : Nat) (hn : n ≤ 1000) : Q1 [⟨0, ((12 + 16 * n : Nat) : Int)⟩] :=
  ⟨fun x hx => by rw [List.mem_singleton] at hx; subst hx; dsimp only; omega, List.pairwise_singleton ..⟩
theorem QM (K : Nat) (s : List UInt8) (hs : s.length ≤ 1000000) (hK : 2000000 < K) : qN.m K s = .ok (j0 s) := by
  have h0 := y5 K s 0 0 12 (by omega) (by omega) (by omega) (by omega) (by omega)
  rw [show ((0 : Nat) : Int) = 0 from rfl, show ((12 : Nat) : Int) = 12 from rfl] at h0
  unfold qN.m vK.m zA.m j0
  rw [qG.bind_ok, qG.bind_ok, h0]
  by_cases h1 : s.length < 12
  · rw [if_neg (by omega), if_pos h1]; rfl
  · rw [if_pos (by omega), if_neg h1, qG.bind_ok]
    dsimp only
    rw [List.drop_zero]
    have htl : (s.take 12).length = 12 := by rw [List.length_take]; omega
    have u0 := QY K (s.take 12) (0 + 0) 0 4 w4 (by omega) (by omega) (by omega) (by omega) (by omega)
    have u4 := QY K (s.take 12) (0 + 0) 4 2 w2 (by omega) (by omega) (by omega) (by omega) (by omega)
    unfold ug at u0 u4
    rw [if_pos (by omega)] at u0 u4
    have b0 : zC (s.take 12) 0 4 = zC s 0 4 := by have := jJ s 0 12 0 4 (by omega); rw [List.drop_zero] at this; exact this
    have b4 : zC (s.take 12) 4 2 = zC s 4 2 := by have := jJ s 0 12 4 2 (by omega); rw [List.drop_zero] at this; exact this
    rw [b0] at u0
    rw [b4] at u4
    have l0 := jh s 0 4
    have l4 := jh s 4 2
    rw [show ((0 : Nat) : Int) = 0 from rfl, show ((4 : Nat) : Int) = 4 from rfl] at u0
    rw [show ((2 : Nat) : Int) = 2 from rfl, show ((4 : Nat) : Int) = 4 from rfl] at u4
    rw [show ((0 : Int) != 0) = false from rfl, cond_false, u0, qG.bind_ok]
    dsimp only
    rw [u4, qG.bind_ok]
    dsimp only
    unfold z5.m
    rw [qJ, xM (by omega) (by omega), ZC, qJ, qG.bind_ok, xg (by omega) (by omega)]
    generalize zC s 0 4 = kind at *
    generalize zC s 4 2 = n at *
    have stop : qN.j1 K s (kind : Int) (n : Int) true = .ok (0, [], 3) := rfl
    by_cases hg : (kind = 65536 ∨ kind = 1330926671) ∧ 1 ≤ n ∧ n ≤ 1000
    · rw [decide_eq_true hg.1, show (((!true) || decide ((n : Int) < 1)) || decide ((n : Int) > 1000)) = false from by
        rw [Bool.or_eq_false_iff, Bool.or_eq_false_iff]; exact ⟨⟨rfl, decide_eq_false (by omega)⟩, decide_eq_false (by omega)⟩, cond_false]
      unfold qY.m
      rw [qG.bind_ok, v8 K kind n l0 hg.2.1 hg.2.2 (by omega), qG.bind_ok]
      by_cases hh : s.take 12 = zR kind n
      · rw [if_neg (fun h => h ⟨hg.1, hg.2.1, hg.2.2, hh⟩), hh, beq_self_eq_true, Bool.not_true]
        unfold qN.j1
        have hsub := y5 K s 0 12 (16 * n) (by omega) (by omega) (by omega) (by omega) (by omega)
        rw [show ((12 : Nat) : Int) = 12 from rfl] at hsub
        have e16 : qC ((16 : Int) * (n : Int)) = ((16 * n : Nat) : Int) := by rw [qz (by omega) (by omega)]; omega
        have e12 : qC ((12 : Int) + qC ((16 : Int) * (n : Int))) = ((12 + 16 * n : Nat) : Int) := by rw [qz (x := 16 * _) (by omega) (by omega), qz (by omega) (by omega)]; omega
        rw [cond_false, e12, e16, hsub]
        by_cases h2 : s.length < 12 + 16 * n
        · rw [if_neg (by omega), if_pos h2]; rfl
        · rw [if_pos (by omega), if_neg h2, qG.bind_ok]
          dsimp only
          rw [show ((0 : Int) != 0) = false from rfl, cond_false]
          rcases uZ K [] [] rfl ⟨by simp, List.Pairwise.nil⟩ 0 ((12 + 16 * n : Nat) : Int) [] (by omega) (by omega) (by omega) (by simp) (by simp; omega) with ⟨hc, _⟩ | ⟨_, its', hm, hadd⟩
          · cases hc
          · rw [hadd, qG.bind_ok]
            dsimp only
            exact v9 K s kind n l0 hs hg.2.2 (by omega) hK n K 0 _ its' [] 0 [] (by omega) (by omega) hm (Zm n hg.2.2) (by simp [jV]) rfl (by omega)
      · rw [if_pos (fun h => hh h.2.2.2), show (s.take 12 == zR kind n) = false from by simpa using hh]; rfl
    · rw [if_pos (fun h => hg ⟨h.1, h.2.1, h.2.2.1⟩)]
      have d : (((!decide (kind = 65536 ∨ kind = 1330926671)) || decide ((n : Int) < 1)) || decide ((n : Int) > 1000)) = true := by
        by_cases hk : kind = 65536 ∨ kind = 1330926671
        · by_cases hn : 1 ≤ n
          · rw [decide_eq_true (show (n : Int) > 1000 by have : ¬ n ≤ 1000 := fun h => hg ⟨hk, hn, h⟩; omega), Bool.or_true]
          · rw [decide_eq_true (show (n : Int) < 1 by omega)]; simp
        · rw [decide_eq_false hk]; rfl
      rw [d, cond_true, stop]
end Go.Pn

set_option maxRecDepth 100000
namespace Go.Pn
open Go Go.Sl Go.Pu Go.Mo
theorem QF (m : Nat) : qO.m (m + 300) = .ok true := by kernel_rfl
theorem jm (K : Nat) (hK : 300 ≤ K) : qO.m K = .ok true := by
  obtain ⟨m, rfl⟩ : ∃ m, K = m + 300 := ⟨K - 300, by omega⟩
  exact QF m
structure Xr (K : Nat) (l : List Tb) : Prop where
  len : l.length ≤ 1001
  tag : ∀ t ∈ l, t.Tag_.length ≤ 9223372036854775807 ∧ t.Tag_.length < K
  dat : ∀ t ∈ l, t.Data_.length ≤ 5000
  sz : zc l ≤ 108003
theorem XS {K : Nat} {l : List Tb} (hK : 9223372036854775807 < K) (hb : ∀ t ∈ l, t.Tag_.length ≤ 9223372036854775807) (h : l.length ≤ 1001 ∧ uf l ≤ 105000 ∧ zc l ≤ 108003 ∧ ∀ t ∈ l, t.Data_.length ≤ 5000) : Xr K l :=
  ⟨h.1, fun t ht => ⟨hb t ht, by have := hb t ht; omega⟩, h.2.2.2, h.2.2.1⟩
theorem Xr.prog {K : Nat} {l : List Tb} (h : Xr K l) (kind : Nat) (hk : kind < 4294967296) (hK : 2000000 < K) : qD.m K (kind : Int) l = .ok (vL kind l) :=
  Qj K kind l hk (by have := h.len; omega) h.tag (by have := h.sz; omega) (fun t ht => by have := h.dat t ht; omega) (by omega)
theorem ZW {a : Int} (h : (Lit.int .u32 a).wf = true) : ∃ n : Nat, a = (n : Int) ∧ n < 4294967296 := by
  have h2 : (0 : Int) ≤ a ∧ a < 4294967296 := by
    simp [Lit.wf, IntKind.min, IntKind.max, IntKind.signed, IntKind.bits] at h
    omega
  exact ⟨a.toNat, by omega, by omega⟩
end Go.Pn

set_option maxRecDepth 100000
namespace Go.Pn
open Go Go.Sl Go.Pu Go.Mo
theorem xJ {α : Type} (a b : List α) {n : Nat} (h : n = a.length) : (a ++ b).take n = a := by subst h; exact List.take_left
theorem yT {α : Type} (a b : List α) {n : Nat} (h : n = a.length) : (a ++ b).drop n = b := by subst h; exact List.drop_left
structure Good (s : List UInt8) (n i a : Nat) (t : Tb) : Prop where
  row : xX s i = yN a t
  four : a % 4 = 0
  lo : 12 + 16 * n ≤ a
  hi : a + zy t.Data_.length ≤ s.length
  pad : (s.drop a).take (zy t.Data_.length) = yZ t
  tag : vg t.Tag_ = true
  dat : t.Data_.length ≤ 16777216
theorem yO {a : Nat} {t : Tb} (h4 : t.Tag_.length = 4) (ha : a < 4294967296) (hd : t.Data_.length < 4294967296) :
    (yN a t).take 4 = t.Tag_ ∧ zC (yN a t) 4 4 = xu t.Data_ ∧ zC (yN a t) 8 4 = a ∧ zC (yN a t) 12 4 = t.Data_.length := by
  have hw := uk t.Data_
  have lw : ∀ A, (z6 4 A).length = 4 := zz 4
  unfold yN
  refine ⟨?_, ?_, ?_, ?_⟩
  · rw [List.append_assoc, List.append_assoc]; exact xJ _ _ h4.symm
  · have := vz t.Tag_ (xu t.Data_) (z6 4 a ++ z6 4 t.Data_.length) 4
    rw [h4, Nat.mod_eq_of_lt (by omega)] at this
    rw [List.append_assoc, List.append_assoc]; exact this
  · have := vz (t.Tag_ ++ z6 4 (xu t.Data_)) a (z6 4 t.Data_.length) 4
    rw [List.length_append, h4, lw, Nat.mod_eq_of_lt (by omega)] at this
    rw [List.append_assoc]; exact this
  · have := vz ((t.Tag_ ++ z6 4 (xu t.Data_)) ++ z6 4 a) t.Data_.length [] 4
    rw [List.append_nil, List.length_append, List.length_append, h4, lw, lw, Nat.mod_eq_of_lt (by omega)] at this
    exact this
theorem Qk {s : List UInt8} {n i a : Nat} {t : Tb} {S : List Sp} (g : Good s n i a t) (hs : s.length ≤ 1000000) (hc : 0 < t.Data_.length → xC S (a : Nat) ((a + zy t.Data_.length : Nat) : Int) = false) :
    vf s S (xX s i) = .ok (t, if 0 < t.Data_.length then jV S (a : Nat) ((a + zy t.Data_.length : Nat) : Int) else S) := by
  have hup : t.Data_.length ≤ zy t.Data_.length := by unfold zy; omega
  have h4 := xI g.tag
  have hhi := g.hi
  obtain ⟨p1, p2, p3, p4⟩ := yO (a := a) h4 (by omega) (by have := g.dat; omega)
  have hdat : (s.drop a).take t.Data_.length = t.Data_ := by
    have := congrArg (List.take t.Data_.length) g.pad
    rw [List.take_take, Nat.min_eq_left hup] at this
    rw [this]; unfold yZ; exact xJ _ _ rfl
  have hz : (s.drop (a + t.Data_.length)).take (zy t.Data_.length - t.Data_.length) = List.replicate (zy t.Data_.length - t.Data_.length) 0 := by
    have := congrArg (List.drop t.Data_.length) g.pad
    rw [List.drop_take, List.drop_drop] at this
    rw [this]; unfold yZ; exact yT _ _ rfl
  rw [g.row]
  unfold vf
  rw [p1, p2, p3, p4, if_neg (by have := g.four; have := g.dat; omega), if_neg (fun h => h hhi), hz, uq, if_neg (by decide), if_neg (fun h => by rw [hc h.1] at h; cases h.2), hdat, if_neg (fun h => h rfl)]
def jx (D : List Tb) : List UInt8 := (y4 D).getD []
theorem Qg (D : List Tb) (t : Tb) : jx (D ++ [t]) = t.Tag_ := by unfold jx; rw [jo]; rfl
theorem je : ∀ a b : List Tb, zc (a ++ b) = zc a + zc b
  | [], b => by simp [zc]
  | t :: a, b => by rw [List.cons_append, zc, zc, je a b, Nat.add_assoc]
theorem uX : ∀ (p : Option (List UInt8)) (D : List Tb) (t : Tb) (T : List Tb), vE p (D ++ t :: T) = true → Xe (if D = [] then p else y4 D) t = true
  | p, [], t, T, h => by
    rw [List.nil_append, vE, Bool.and_eq_true] at h
    rw [if_pos rfl]; exact h.1
  | p, d :: D, t, T, h => by
    rw [List.cons_append, vE, Bool.and_eq_true] at h
    have := uX (some d.Tag_) D t T h.2
    rw [if_neg (by simp)]
    cases D with
    | nil => simpa [y4] using this
    | cons e D => rw [if_neg (by simp)] at this; simpa [y4] using this
theorem v6 {D : List Tb} {t : Tb} {T l : List Tb} (hl : D ++ t :: T = l) (h : vE none l = true) : vg t.Tag_ = true ∧ Op.bytesLess (jx D) t.Tag_ = true := by
  subst hl
  have := uX none D t T h
  unfold Xe at this
  rw [Bool.and_eq_true] at this
  refine ⟨this.1, ?_⟩
  have h4 := xI this.1
  by_cases hD : D = []
  · subst hD
    exact Qn (fun h => by rw [h] at h4; cases h4)
  · rw [if_neg hD] at this
    unfold jx
    cases hp : y4 D with
    | none =>
      exact Qn (fun h => by rw [h] at h4; cases h4)
    | some q =>
      rw [hp] at this
      simp only [Bool.and_eq_true] at this
      exact this.2.1
def Xp (n : Nat) (l : List Tb) (pl : Nat → Nat) (b : Nat) (S : List Sp) : Prop :=
  ∀ x ∈ S, x = ⟨0, ((12 + 16 * n : Nat) : Int)⟩ ∨ ∃ i t, i < b ∧ l[i]? = some t ∧ x = ⟨(pl i : Nat), ((pl i + zy t.Data_.length : Nat) : Int)⟩
structure ZA (s : List UInt8) (l : List Tb) (pl : Nat → Nat) (b : Nat) : Prop where
  good : ∀ i t, i < b → l[i]? = some t → Good s l.length i (pl i) t
  apart : ∀ i j t u, i < j → j < l.length → l[i]? = some t → l[j]? = some u → pl i + zy t.Data_.length ≤ pl j ∨ pl j + zy u.Data_.length ≤ pl i
  ok : vE none l = true
theorem uW {s : List UInt8} {l : List Tb} {pl : Nat → Nat} {b i : Nat} {S : List Sp} {t : Tb} (hA : ∀ i j t u, i < j → j < l.length → l[i]? = some t → l[j]? = some u → pl i + zy t.Data_.length ≤ pl j ∨ pl j + zy u.Data_.length ≤ pl i)
    (ht : l[i]? = some t) (hlo : 12 + 16 * l.length ≤ pl i) (hI : Xp l.length l pl i S) : xC S (pl i : Nat) ((pl i + zy t.Data_.length : Nat) : Int) = false := by
  rw [← Bool.not_eq_true]
  intro h
  obtain ⟨x, hx, h⟩ := List.any_eq_true.1 h
  simp only [Bool.and_eq_true, decide_eq_true_eq] at h
  rcases hI x hx with rfl | ⟨j, u, hj, hu, rfl⟩
  · dsimp only at h; omega
  · dsimp only at h
    have hil : i < l.length := (List.getElem?_eq_some_iff.1 ht).1
    have := hA j i u t hj hil hu ht
    omega
theorem Xg {s : List UInt8} {l : List Tb} {pl : Nat → Nat} {b kind m : Nat} (hA : ZA s l pl b) (hs : s.length ≤ 1000000) : ∀ (T D R : List Tb) (S : List Sp), D ++ (T ++ R) = l → D.length + T.length ≤ b → Xp l.length l pl D.length S →
    ∃ S', Xp l.length l pl (D ++ T).length S' ∧ xZ s kind (T.length + m) D.length S D (zc D) (jx D) = xZ s kind m (D ++ T).length S' (D ++ T) (zc (D ++ T)) (jx (D ++ T)) := by
  intro T
  induction T with
  | nil =>
    intro D R S _ _ hI
    exact ⟨S, by simpa using hI, by simp⟩
  | cons t T ih =>
    intro D R S hl hb hI
    simp only [List.length_cons] at hb
    have ht : l[D.length]? = some t := by rw [← hl]; simp
    have g := hA.good D.length t (by omega) ht
    have hok := v6 (D := D) (t := t) (T := T ++ R) (by rw [← hl]; simp) hA.ok
    have h4 := xI hok.1
    have htab := Qk (S := S) g hs (fun _ => uW (s := s) (b := b) hA.apart ht g.lo hI)
    have hrt : (xX s D.length).take 4 = t.Tag_ := by rw [g.row]; exact (yO h4 (by have := g.hi; omega) (by have := g.dat; omega)).1
    have hI2 : Xp l.length l pl (D ++ [t]).length (if 0 < t.Data_.length then jV S (pl D.length : Nat) ((pl D.length + zy t.Data_.length : Nat) : Int) else S) := by
      intro x hx
      have old : x ∈ S → x = ⟨0, ((12 + 16 * l.length : Nat) : Int)⟩ ∨ ∃ i t, i < (D ++ [t]).length ∧ l[i]? = some t ∧ x = ⟨(pl i : Nat), ((pl i + zy t.Data_.length : Nat) : Int)⟩ := by
        intro hx
        rcases hI x hx with h | ⟨i, u, h1, h2, h3⟩
        · exact .inl h
        · exact .inr ⟨i, u, by rw [List.length_append, List.length_singleton]; omega, h2, h3⟩
      have old' : x ∈ S → x = ⟨0, ((12 + 16 * l.length : Nat) : Int)⟩ ∨ ∃ i u, i < (D ++ [t]).length ∧ l[i]? = some u ∧ x = ⟨(pl i : Nat), ((pl i + zy u.Data_.length : Nat) : Int)⟩ := by
        intro hx
        rcases hI x hx with h | ⟨i, u, h1, h2, h3⟩
        · exact .inl h
        · exact .inr ⟨i, u, by rw [List.length_append, List.length_singleton]; omega, h2, h3⟩
      split at hx
      · rcases v1.1 hx with rfl | hx
        · exact .inr ⟨D.length, t, by rw [List.length_append, List.length_singleton]; omega, ht, rfl⟩
        · exact old' hx
      · exact old' hx
    obtain ⟨S', h1, h2⟩ := ih (D ++ [t]) R _ (by rw [← hl]; simp) (by rw [List.length_append, List.length_singleton]; omega) hI2
    refine ⟨S', by simpa using h1, ?_⟩
    rw [List.length_cons, show T.length + 1 + m = (T.length + m) + 1 by omega, xZ, hrt, hok.1, hok.2, if_neg (by decide), htab]
    dsimp only
    rw [show D.length + 1 = (D ++ [t]).length by simp, show zc D + zy t.Data_.length = zc (D ++ [t]) by rw [je, zc, zc, Nat.add_zero], show t.Tag_ = jx (D ++ [t]) from (Qg D t).symm, h2]
    simp
theorem vW (kind n : Nat) (hk : kind < 4294967296) (hn : n ≤ 1000) (r : List UInt8) : zC (zR kind n ++ r) 0 4 = kind ∧ zC (zR kind n ++ r) 4 2 = n ∧ (zR kind n ++ r).take 12 = zR kind n := by
  have l4 : (z6 4 kind).length = 4 := zz 4 kind
  refine ⟨?_, ?_, xJ _ _ (z3 kind n).symm⟩
  · have := vA kind (((z6 2 n ++ z6 2 (16 * 2 ^ n.log2)) ++ z6 2 n.log2) ++ z6 2 (16 * (n - 2 ^ n.log2)) ++ r) 4
    rw [Nat.mod_eq_of_lt (by omega)] at this
    unfold zR
    simp only [List.append_assoc] at this ⊢
    exact this
  · have := vz (z6 4 kind) n ((z6 2 (16 * 2 ^ n.log2) ++ z6 2 n.log2) ++ z6 2 (16 * (n - 2 ^ n.log2)) ++ r) 2
    rw [l4, Nat.mod_eq_of_lt (by omega)] at this
    unfold zR
    simp only [List.append_assoc] at this ⊢
    exact this
theorem j7 : ∀ (a : Nat) (D T : List Tb), zj a (D ++ T) = zj a D ++ zj (a + zc D) T
  | a, [], T => by simp [zj, zc]
  | a, d :: D, T => by rw [List.cons_append, zj, zj, j7 _ D T, zc, List.append_assoc, Nat.add_assoc]
theorem jO : ∀ (D T : List Tb), zm (D ++ T) = zm D ++ zm T
  | [], T => by simp [zm]
  | d :: D, T => by rw [List.cons_append, zm, zm, jO D T, List.append_assoc]
theorem jb {l : List Tb} {i : Nat} {t : Tb} (h : l[i]? = some t) : l = l.take i ++ t :: l.drop (i + 1) ∧ (l.take i).length = i := by
  obtain ⟨h1, h2⟩ := List.getElem?_eq_some_iff.1 h
  refine ⟨?_, by rw [List.length_take]; omega⟩
  conv => lhs; rw [← List.take_append_drop i l]
  rw [List.drop_eq_getElem_cons h1, h2]
theorem u7 : ∀ l : List Tb, zc l % 4 = 0
  | [] => rfl
  | t :: l => by have := u7 l; rw [zc]; unfold zy; omega
theorem jj {kind : Nat} {l : List Tb} (h : ∀ t ∈ l, t.Tag_.length = 4) : (q9 kind l).length = 12 + 16 * l.length + zc l := by
  unfold q9; rw [List.length_append, List.length_append, z3, yc _ _ h, yL]
theorem jT {kind : Nat} {l : List Tb} (hok : vE none l = true) {i : Nat} {t : Tb} (ht : l[i]? = some t) : Good (q9 kind l) l.length i (12 + 16 * l.length + zc (l.take i)) t := by
  have htg := yt none l hok
  have h4 : ∀ u ∈ l, u.Tag_.length = 4 := fun u hu => xI (htg u hu).1
  obtain ⟨hl, hi⟩ := jb ht
  have hmem : t ∈ l := List.mem_of_getElem? ht
  have hsz : zc l = zc (l.take i) + (zy t.Data_.length + zc (l.drop (i + 1))) := by
    conv => lhs; rw [hl]
    rw [je, zc]
  have hr0 : ∀ base, zj base l = zj base (l.take i) ++ (yN (base + zc (l.take i)) t ++ zj (base + zc (l.take i) + zy t.Data_.length) (l.drop (i + 1))) := by
    intro base
    conv => lhs; rw [hl]
    rw [j7, zj]
  have hr := hr0 (12 + 16 * l.length)
  have hb : zm l = zm (l.take i) ++ (yZ t ++ zm (l.drop (i + 1))) := by
    conv => lhs; rw [hl]
    rw [jO, zm]
  have hrl : (zj (12 + 16 * l.length) (l.take i)).length = 16 * i := by rw [yc _ _ (fun u hu => h4 u (List.mem_of_mem_take hu)), hi]
  refine ⟨?_, ?_, by omega, ?_, ?_, (htg t hmem).1, (htg t hmem).2⟩
  · unfold xX q9
    rw [hr]
    have e : zR kind l.length ++ (zj (12 + 16 * l.length) (l.take i) ++ (yN (12 + 16 * l.length + zc (l.take i)) t ++ zj (12 + 16 * l.length + zc (l.take i) + zy t.Data_.length) (l.drop (i + 1)))) ++ zm l =
        (zR kind l.length ++ zj (12 + 16 * l.length) (l.take i)) ++ (yN (12 + 16 * l.length + zc (l.take i)) t ++ (zj (12 + 16 * l.length + zc (l.take i) + zy t.Data_.length) (l.drop (i + 1)) ++ zm l)) := by simp only [List.append_assoc]
    rw [e, yT _ _ (by rw [List.length_append, z3, hrl]), xJ _ _ (j6 (h4 t hmem)).symm]
  · have := u7 (l.take i); omega
  · rw [jj h4, hsz]; omega
  · unfold q9
    rw [hb]
    have e : zR kind l.length ++ zj (12 + 16 * l.length) l ++ (zm (l.take i) ++ (yZ t ++ zm (l.drop (i + 1)))) = (zR kind l.length ++ zj (12 + 16 * l.length) l ++ zm (l.take i)) ++ (yZ t ++ zm (l.drop (i + 1))) := by simp only [List.append_assoc]
    rw [e, yT _ _ (by rw [List.length_append, List.length_append, z3, yc _ _ h4, yL]), xJ _ _ (y2 t).symm]
theorem yp {l : List Tb} : ∀ i j t u, i < j → j < l.length → l[i]? = some t → l[j]? = some u → 12 + 16 * l.length + zc (l.take i) + zy t.Data_.length ≤ 12 + 16 * l.length + zc (l.take j) ∨ 12 + 16 * l.length + zc (l.take j) + zy u.Data_.length ≤ 12 + 16 * l.length + zc (l.take i) := by
  intro i j t u hij hj ht hu
  left
  obtain ⟨hl, hi⟩ := jb ht
  have h1 : l.take j = l.take i ++ t :: (l.take j).drop (i + 1) := by
    have h2 : (l.take j)[i]? = some t := by rw [List.getElem?_take, if_pos hij, ht]
    have := (jb h2).1
    rw [List.take_take, Nat.min_eq_left (by omega)] at this
    exact this
  have : zc (l.take j) = zc (l.take i) + (zy t.Data_.length + zc ((l.take j).drop (i + 1))) := by
    conv => lhs; rw [h1]
    rw [je, zc]
  omega
end Go.Pn

set_option maxRecDepth 100000
namespace Go.Pn
open Go Go.Sl Go.Pu Go.Mo
def XD : List Tb → Nat
  | [] => 0
  | t :: r => xu t.Data_ + XD r
theorem jS : ∀ (l : List Tb) (k : Nat), k < zc l → ∃ D t T, l = D ++ t :: T ∧ zc D ≤ k ∧ k < zc D + zy t.Data_.length
  | [], k, h => by simp [zc] at h
  | t :: l, k, h => by
    rw [zc] at h
    by_cases hk : k < zy t.Data_.length
    · exact ⟨[], t, l, rfl, by simp [zc], by simpa [zc] using hk⟩
    · obtain ⟨D, u, T, h1, h2, h3⟩ := jS l (k - zy t.Data_.length) (by omega)
      exact ⟨t :: D, u, T, by rw [h1]; rfl, by rw [zc]; omega, by rw [zc]; omega⟩
theorem vI {α : Type} (s : List α) (k a n : Nat) (y : α) (h : k < a ∨ a + n ≤ k) : ((s.set k y).drop a).take n = (s.drop a).take n := by
  apply List.ext_getElem?
  intro i
  rw [List.getElem?_take, List.getElem?_take]
  split
  · rw [List.getElem?_drop, List.getElem?_drop, List.getElem?_set_ne (by omega)]
  · rfl
theorem Zz (i : Nat) (A : List UInt8) (x y : UInt8) (B : List UInt8) (h : x ≠ y) : yA i (A ++ x :: B) % 4294967296 ≠ yA i (A ++ y :: B) % 4294967296 := by
  rw [um, um, yA, yA]
  have hx := x.toNat_lt
  have hy := y.toNat_lt
  have hne : x.toNat ≠ y.toNat := fun e => h (UInt8.toNat_inj.1 e)
  have hm : (i + A.length) % 4 < 4 := Nat.mod_lt _ (by decide)
  generalize yA (i + A.length + 1) B = w
  generalize yA i A = v
  have hc : 3 - (i + A.length) % 4 = 0 ∨ 3 - (i + A.length) % 4 = 1 ∨ 3 - (i + A.length) % 4 = 2 ∨ 3 - (i + A.length) % 4 = 3 := by omega
  rcases hc with e | e | e | e <;> rw [e] <;> simp only [Nat.pow_zero, Nat.pow_one, show (256 : Nat) ^ 2 = 65536 from rfl, show (256 : Nat) ^ 3 = 16777216 from rfl] <;> omega
theorem Ze {a b : Nat} (ha : a < 256) (hb : b < 256) : vd .u8 (a : Int) (b : Int) = ((a ^^^ b : Nat) : Int) := by
  show IntKind.u8.wrap ((BitVec.ofInt 8 (a : Int) ^^^ BitVec.ofInt 8 (b : Int)).toNat : Int) = _
  simp only [x3, BitVec.toNat_xor, BitVec.toNat_ofNat]
  rw [Nat.mod_eq_of_lt ha, Nat.mod_eq_of_lt hb]
  have : a ^^^ b < 256 := Nat.xor_lt_two_pow (n := 8) ha hb
  exact jN (by omega) (by omega)
theorem ZX {x : UInt8} {b : Nat} (h0 : 0 < b) (hb : b < 256) : jg (vd .u8 (xN x) (b : Int)) ≠ x := by
  unfold xN
  rw [Ze x.toNat_lt hb, Zy]
  intro h
  have h1 := congrArg UInt8.toNat h
  have h2 : x.toNat ^^^ b < 256 := Nat.xor_lt_two_pow (n := 8) x.toNat_lt hb
  have gen : ∀ n : Nat, (UInt8.ofNat n).toNat = n % 256 := fun n => by simp
  rw [gen, Nat.mod_eq_of_lt h2] at h1
  have h3 : x.toNat ^^^ (x.toNat ^^^ b) = x.toNat ^^^ x.toNat := by rw [h1]
  rw [← Nat.xor_assoc, Nat.xor_self, Nat.zero_xor] at h3
  omega
theorem uI {kind : Nat} {l : List Tb} (hk : kind = 65536 ∨ kind = 1330926671) (hok : vE none l = true) (hl : 1 ≤ l.length ∧ l.length ≤ 1000) (hz : zc l ≤ 108003) {k : Nat} {x y : UInt8} (hk1 : 12 + 16 * l.length ≤ k) (hx : (q9 kind l)[k]? = some x) (hxy : y ≠ x) :
    (j0 ((q9 kind l).set k y)).2.2 = 3 ∨ (j0 ((q9 kind l).set k y)).2.2 = 4 := by
  have htg := yt none l hok
  have h4 : ∀ u ∈ l, u.Tag_.length = 4 := fun u hu => xI (htg u hu).1
  have hlen := jj (kind := kind) h4
  have hks : k < (q9 kind l).length := (List.getElem?_eq_some_iff.1 hx).1
  obtain ⟨D, t, T, hl2, hD1, hD2⟩ := jS l (k - (12 + 16 * l.length)) (by omega)
  have ht : l[D.length]? = some t := by rw [hl2]; simp
  have htake : l.take D.length = D := by rw [hl2]; exact xJ _ _ rfl
  have hDl : D.length < l.length := (List.getElem?_eq_some_iff.1 ht).1
  have hn : l.length = D.length + (T.length + 1) := by
    conv => lhs; rw [hl2]
    rw [List.length_append, List.length_cons]
  have g := jT (kind := kind) hok ht
  rw [htake] at g
  have hgi : ∀ i u, i ≤ D.length → l[i]? = some u → xX ((q9 kind l).set k y) i = xX (q9 kind l) i := fun i u hi _ => vI _ _ _ _ _ (.inr (by omega))
  have hA : ZA ((q9 kind l).set k y) l (fun i => 12 + 16 * l.length + zc (l.take i)) D.length := by
    refine ⟨fun i u hi hu => ?_, yp, hok⟩
    have gi := jT (kind := kind) hok hu
    have hap := yp (l := l) i D.length u t hi hDl hu ht
    rw [htake] at hap
    have hup : 0 < zy t.Data_.length := by omega
    have hmono : 12 + 16 * l.length + zc (l.take i) + zy u.Data_.length ≤ k := by
      rcases hap with h | h
      · omega
      · exfalso
        have h1 : l.take D.length = l.take i ++ u :: (l.take D.length).drop (i + 1) := by
          have h2 : (l.take D.length)[i]? = some u := by rw [List.getElem?_take, if_pos hi, hu]
          have := (jb h2).1
          rw [List.take_take, Nat.min_eq_left (by omega)] at this
          exact this
        rw [htake] at h1
        have : zc D = zc (l.take i) + (zy u.Data_.length + zc (D.drop (i + 1))) := by
          conv => lhs; rw [h1]
          rw [je, zc]
        omega
    refine ⟨by rw [hgi i u (by omega) hu]; exact gi.row, gi.four, gi.lo, by rw [List.length_set]; exact gi.hi, ?_, gi.tag, gi.dat⟩
    rw [vI _ _ _ _ _ (.inr hmono)]
    exact gi.pad
  have hsplit : (q9 kind l).set k y = zR kind l.length ++ (zj (12 + 16 * l.length) l ++ zm l).set (k - 12) y := by
    unfold q9
    rw [List.append_assoc, List.set_append_right _ _ (by rw [z3]; omega), z3]
  obtain ⟨p1, p2, p3⟩ := vW kind l.length (by omega) hl.2 ((zj (12 + 16 * l.length) l ++ zm l).set (k - 12) y)
  rw [← hsplit] at p1 p2 p3
  have hlen' : ((q9 kind l).set k y).length = 12 + 16 * l.length + zc l := by rw [List.length_set, hlen]
  have hread : j0 ((q9 kind l).set k y) = xZ ((q9 kind l).set k y) kind l.length ([] : List Tb).length [⟨0, ((12 + 16 * l.length : Nat) : Int)⟩] [] (zc []) (jx []) := by
    unfold j0
    rw [p1, p2, p3, if_neg (by omega), if_neg (fun h => h ⟨hk, hl.1, hl.2, rfl⟩), if_neg (by omega)]; rfl
  obtain ⟨S', hI, hrun⟩ := Xg (kind := kind) (m := T.length + 1) hA (by omega) D [] (t :: T) [⟨0, ((12 + 16 * l.length : Nat) : Int)⟩] (by rw [hl2]; simp) (by simp) (fun z hz => .inl (List.mem_singleton.1 hz))
  rw [← hn, List.nil_append] at hrun
  rw [List.nil_append] at hI
  rw [hread, hrun]
  have hok2 := v6 (D := D) (t := t) (T := T) hl2.symm hok
  obtain ⟨q1, q2, q3, q4⟩ := yO (a := 12 + 16 * l.length + zc D) (t := t) (h4 t (List.mem_of_getElem? ht)) (by have := g.hi; omega) (by have := g.dat; omega)
  have hrow : xX ((q9 kind l).set k y) D.length = yN (12 + 16 * l.length + zc D) t := by rw [hgi _ t (Nat.le_refl _) ht]; exact g.row
  rw [xZ, hrow, q1, hok2.1, hok2.2, if_neg (by decide)]
  have hup : t.Data_.length ≤ zy t.Data_.length := by unfold zy; omega
  have herr : ∃ e, vf ((q9 kind l).set k y) S' (yN (12 + 16 * l.length + zc D) t) = .error e ∧ (e = 3 ∨ e = 4) := by
    unfold vf
    rw [q1, q2, q3, q4, if_neg (by have := g.four; have := g.dat; omega), if_neg (fun h => h (by rw [List.length_set]; exact g.hi))]
    by_cases hp : 12 + 16 * l.length + zc D + t.Data_.length ≤ k
    · -- in what fills the table up
      have hx0 : x = 0 := by
        have h1 : (((q9 kind l).drop (12 + 16 * l.length + zc D)).take (zy t.Data_.length))[k - (12 + 16 * l.length + zc D)]? = (yZ t)[k - (12 + 16 * l.length + zc D)]? := by rw [g.pad]
        rw [List.getElem?_take, if_pos (by omega), List.getElem?_drop, show 12 + 16 * l.length + zc D + (k - (12 + 16 * l.length + zc D)) = k by omega, hx] at h1
        unfold yZ at h1
        rw [List.getElem?_append_right (by omega), List.getElem?_replicate] at h1
        split at h1
        · exact Option.some.inj h1
        · cases h1
      have hzf : uo ((((q9 kind l).set k y).drop (12 + 16 * l.length + zc D + t.Data_.length)).take (zy t.Data_.length - t.Data_.length)) = false := by
        rw [← Bool.not_eq_true]
        intro hz
        have hmem : y ∈ (((q9 kind l).set k y).drop (12 + 16 * l.length + zc D + t.Data_.length)).take (zy t.Data_.length - t.Data_.length) := by
          refine List.mem_of_getElem? (i := k - (12 + 16 * l.length + zc D + t.Data_.length)) ?_
          rw [List.getElem?_take, if_pos (by omega), List.getElem?_drop, show 12 + 16 * l.length + zc D + t.Data_.length + (k - (12 + 16 * l.length + zc D + t.Data_.length)) = k by omega, List.getElem?_set_self hks]
        have := List.all_eq_true.1 hz y hmem
        have hy0 : y = 0 := by simpa using this
        exact hxy (by rw [hy0, hx0])
      rw [hzf, if_pos rfl]
      exact ⟨3, rfl, .inl rfl⟩
    · -- in its bytes
      have hz0 : (((q9 kind l).set k y).drop (12 + 16 * l.length + zc D + t.Data_.length)).take (zy t.Data_.length - t.Data_.length) = List.replicate (zy t.Data_.length - t.Data_.length) 0 := by
        rw [vI _ _ _ _ _ (.inl (by omega))]
        have := congrArg (List.drop t.Data_.length) g.pad
        rw [List.drop_take, List.drop_drop] at this
        rw [this]; unfold yZ; exact yT _ _ rfl
      have hcl := uW (s := (q9 kind l).set k y) (b := D.length) (pl := fun i => 12 + 16 * l.length + zc (l.take i)) yp ht (by omega) hI
      rw [htake] at hcl
      have hdat : ((q9 kind l).drop (12 + 16 * l.length + zc D)).take t.Data_.length = t.Data_ := by
        have := congrArg (List.take t.Data_.length) g.pad
        rw [List.take_take, Nat.min_eq_left hup] at this
        rw [this]; unfold yZ; exact xJ _ _ rfl
      have hdat' : (((q9 kind l).set k y).drop (12 + 16 * l.length + zc D)).take t.Data_.length = t.Data_.set (k - (12 + 16 * l.length + zc D)) y := by
        have hget : ∀ i, i < t.Data_.length → t.Data_[i]? = (q9 kind l)[12 + 16 * l.length + zc D + i]? := by
          intro i hi
          have h1 : (((q9 kind l).drop (12 + 16 * l.length + zc D)).take t.Data_.length)[i]? = t.Data_[i]? := by rw [hdat]
          rw [List.getElem?_take, if_pos hi, List.getElem?_drop] at h1
          exact h1.symm
        apply List.ext_getElem?
        intro i
        rw [List.getElem?_take]
        by_cases hi : i < t.Data_.length
        · rw [if_pos hi, List.getElem?_drop]
          by_cases hik : k - (12 + 16 * l.length + zc D) = i
          · rw [show 12 + 16 * l.length + zc D + i = k by omega, List.getElem?_set_self hks, hik, List.getElem?_set_self hi]
          · rw [List.getElem?_set_ne (by omega), List.getElem?_set_ne hik, hget i hi]
        · rw [if_neg hi, List.getElem?_eq_none (by rw [List.length_set]; omega)]
      have hj : k - (12 + 16 * l.length + zc D) < t.Data_.length := by omega
      have hxj : t.Data_[k - (12 + 16 * l.length + zc D)]? = some x := by
        have h1 : (((q9 kind l).drop (12 + 16 * l.length + zc D)).take t.Data_.length)[k - (12 + 16 * l.length + zc D)]? = t.Data_[k - (12 + 16 * l.length + zc D)]? := by rw [hdat]
        rw [List.getElem?_take, if_pos hj, List.getElem?_drop, show 12 + 16 * l.length + zc D + (k - (12 + 16 * l.length + zc D)) = k by omega, hx] at h1
        exact h1.symm
      have hdec : t.Data_ = t.Data_.take (k - (12 + 16 * l.length + zc D)) ++ x :: t.Data_.drop (k - (12 + 16 * l.length + zc D) + 1) := by
        conv => lhs; rw [← List.take_append_drop (k - (12 + 16 * l.length + zc D)) t.Data_]
        rw [List.drop_eq_getElem_cons hj]
        congr 2
        rw [List.getElem?_eq_getElem hj] at hxj
        exact Option.some.inj hxj
      have hw : xu (t.Data_.set (k - (12 + 16 * l.length + zc D)) y) ≠ xu t.Data_ := by
        have hs2 : t.Data_.set (k - (12 + 16 * l.length + zc D)) y = t.Data_.take (k - (12 + 16 * l.length + zc D)) ++ y :: t.Data_.drop (k - (12 + 16 * l.length + zc D) + 1) := by
          rw [List.set_eq_take_append_cons_drop, if_pos hj]
        rw [hs2]
        conv => rhs; rw [hdec]
        exact Zz 0 _ y x _ hxy
      rw [hz0, uq, if_neg (by decide), hcl, if_neg (fun h => by cases h.2), hdat', if_pos hw]
      exact ⟨4, rfl, .inr rfl⟩
  obtain ⟨e, he, h34⟩ := herr
  rw [he]
  rcases h34 with rfl | rfl
  · exact .inl rfl
  · exact .inr rfl
theorem vH (K : Nat) (hK : 9223372036854775807 < K) (kind : Nat) (hk : kind < 4294967296) (l : List Tb) (at_ : Int) (h64 : -9223372036854775808 ≤ at_ ∧ at_ ≤ 9223372036854775807) (by_ : Nat) (hby : by_ < 256) (hb : ∀ t ∈ l, t.Tag_.length ≤ 9223372036854775807) :
    qg.m K ⟨(kind : Int), l, at_, (by_ : Int)⟩ = .ok true := by
  unfold qg.m
  dsimp only
  obtain ⟨b, hs, h⟩ := Xh K l (by omega)
  rw [hs, qG.bind_ok]
  cases b with
  | false => rw [Bool.not_false, Bool.true_or, cond_true, jm K (by omega)]; rfl
  | true =>
    have hf := XS hK hb (h rfl)
    have hlen := hf.len
    have hsz := hf.sz
    rw [Bool.not_true, Bool.false_or, yl]
    by_cases hb0 : by_ = 0
    · rw [if_pos (by omega), jm K (by omega)]; rfl
    · have en : qC ((12 : Int) + qC ((16 : Int) * (l.length : Int))) = ((12 + 16 * l.length : Nat) : Int) := by rw [qz (x := 16 * _) (by omega) (by omega), qz (by omega) (by omega)]; omega
      rw [if_neg (by omega), hf.prog kind hk (by omega), qG.bind_ok]
      unfold vL
      by_cases hg : (kind = 65536 ∨ kind = 1330926671) ∧ vE none l = true ∧ 0 < l.length ∧ l.length ≤ 1000
      · rw [if_pos hg]
        dsimp only
        have htg := yt none l hg.2.1
        have h4 : ∀ u ∈ l, u.Tag_.length = 4 := fun u hu => xI (htg u hu).1
        have hfl := jj (kind := kind) (l := l) h4
        rw [en, qJ, show ((0 : Int) != 0) = false from rfl, Bool.false_or, qH]
        by_cases hle : (q9 kind l).length ≤ 12 + 16 * l.length
        · rw [if_pos (by omega), jm K (by omega)]; rfl
        · rw [if_neg (by omega)]
          -- any place
          have main : ∀ a : Nat, (a : Int) ≤ 9223372036854775807 → qg.j1 K ⟨(kind : Int), l, at_, (by_ : Int)⟩ (q9 kind l) ((12 + 16 * l.length : Nat) : Int) (a : Int) = .ok true := by
            intro a ha
            have ed : qC (((q9 kind l).length : Int) - ((12 + 16 * l.length : Nat) : Int)) = ((zc l : Nat) : Int) := by rw [qz (by omega) (by omega)]; omega
            have em : vD (a : Int) ((zc l : Nat) : Int) = ((a % zc l : Nat) : Int) := v2
            have hm : a % zc l < zc l := Nat.mod_lt _ (by omega)
            have ek : qC (((12 + 16 * l.length : Nat) : Int) + ((a % zc l : Nat) : Int)) = ((12 + 16 * l.length + a % zc l : Nat) : Int) := by rw [qz (by omega) (by omega)]; omega
            unfold qg.j1 qg.j2
            dsimp only
            rw [ed, show (((zc l : Nat) : Int) != 0) = true from by rw [bne_iff_ne]; omega, qq, em, ek, qJ, zr (by omega), qq, qJ, zK (by rw [List.length_map]; omega), qq, qJ, Int.toNat_natCast]
            have hkl : 12 + 16 * l.length + a % zc l < (q9 kind l).length := by omega
            have hkl2 : 12 + 16 * l.length ≤ 12 + 16 * l.length + a % zc l := by omega
            generalize 12 + 16 * l.length + a % zc l = k at hkl hkl2
            have hx : (q9 kind l)[k]? = some ((q9 kind l)[k]) := List.getElem?_eq_getElem hkl
            have e1 : rd ((q9 kind l).map xN) (k : Int) = xN ((q9 kind l)[k]) := by rw [QP (by rw [List.length_map]; exact hkl), List.getElem_map]
            rw [e1, List.map_set, xp, QM K _ (by rw [List.length_set]; omega) (by omega)]
            have hrt := uI hg.1 hg.2.1 ⟨hg.2.2.1, hg.2.2.2⟩ hsz hkl2 hx (ZX (x := (q9 kind l)[k]) (by omega) hby)
            generalize j0 ((q9 kind l).set k (jg (vd .u8 (xN ((q9 kind l)[k])) (by_ : Int)))) = r at hrt
            obtain ⟨r1, r2, e⟩ := r
            dsimp only at hrt
            rw [qG.bind_ok]
            dsimp only
            rcases hrt with rfl | rfl
            · rw [show (((3 : Int) == 4) || ((3 : Int) == 3)) = true from rfl, cond_true, jm K (by omega)]; rfl
            · rw [show (((4 : Int) == 4) || ((4 : Int) == 3)) = true from rfl, cond_true, jm K (by omega)]; rfl
          by_cases ha : at_ < 0
          · rw [qH, if_pos ha, qz (x := at_ + 1) (by omega) (by omega), qz (by omega) (by omega), qJ]
            have := main (0 - (at_ + 1)).toNat (by omega)
            rw [Int.toNat_of_nonneg (by omega)] at this
            exact this
          · rw [qH, if_neg ha]
            have := main at_.toNat (by omega)
            rw [Int.toNat_of_nonneg (by omega)] at this
            exact this
      · rw [if_neg hg]
        dsimp only
        rw [qJ, show ((1 : Int) != 0) = true from rfl, Bool.true_or, cond_true, jm K (by omega)]; rfl
theorem ZV {a : Int} (h : (Lit.int .i64 a).wf = true) : -9223372036854775808 ≤ a ∧ a ≤ 9223372036854775807 := by
  simp [Lit.wf, IntKind.min, IntKind.max, IntKind.signed, IntKind.bits] at h
  omega
theorem Xm {a : Int} (h : (Lit.int .u8 a).wf = true) : ∃ n : Nat, a = (n : Int) ∧ n < 256 := by
  have h2 : (0 : Int) ≤ a ∧ a < 256 := by
    simp [Lit.wf, IntKind.min, IntKind.max, IntKind.signed, IntKind.bits] at h
    omega
  exact ⟨a.toNat, by omega, by omega⟩
theorem jH (c : q6) (hk : (Lit.int .u32 c.Kind_).wf = true) (hl : ∀ t ∈ c.L_, t.Tag_.length ≤ maxLen ∧ t.Data_.length ≤ maxLen) (ha : (Lit.int .i64 c.At_).wf = true) (hb : (Lit.int .u8 c.By_).wf = true) : qg.m 10000000000000000000 c = .ok true := by
  obtain ⟨kind, l, at_, by_⟩ := c
  obtain ⟨n, rfl, hn⟩ := ZW hk
  obtain ⟨b, rfl, hb2⟩ := Xm hb
  exact vH _ (by decide) n hn l at_ (ZV ha) b hb2 (fun t ht => by have := (hl t ht).1; simpa [maxLen] using this)
end Go.Pn

