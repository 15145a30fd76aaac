/- Plain facts on the models: what they compute, and what holds of them; conditions: what each theorem states. -/
import Derived.Test.YtlaobafbdllajaaDoorMfmhlm
set_option linter.unusedVariables false
set_option linter.unusedSimpArgs false
namespace Go.Pu
open Go Go.Sl
theorem qR {x : Int} (h0 : -9223372036854775808 ≤ x) (h1 : x < 9223372036854775808) : qC x = x := by
  show (if (true && decide (x % 18446744073709551616 ≥ 9223372036854775808)) = true then x % 18446744073709551616 - 18446744073709551616 else x % 18446744073709551616) = x
  split <;> rename_i h <;> simp at h <;> omega
theorem Q8 (x : Int) : wr .u64 x = x % 18446744073709551616 := by
  simp [wr, IntKind.wrap, IntKind.bits, IntKind.signed]
theorem v8 (x : Int) : wr .u32 x = x % 4294967296 := by
  simp [wr, IntKind.wrap, IntKind.bits, IntKind.signed]
theorem Q9 (x : Int) : wr .u8 x = x % 256 := by
  simp [wr, IntKind.wrap, IntKind.bits, IntKind.signed]
theorem yd {x : Int} (h0 : 0 ≤ x) (h1 : x < 18446744073709551616) : wr .u64 x = x := by rw [Q8]; omega
theorem yH {x : Int} (h0 : 0 ≤ x) (h1 : x < 4294967296) : wr .u32 x = x := by rw [v8]; omega
theorem Qp {x : Int} (h0 : 0 ≤ x) (h1 : x < 256) : wr .u8 x = x := by rw [Q9]; omega
theorem jl {x : Int} (h0 : -9223372036854775808 ≤ x) (h1 : x < 9223372036854775808) : wr .i64 x = x := qR h0 h1
theorem jB (n a : Nat) : BitVec.ofInt n (a : Int) = BitVec.ofNat n a := by
  apply BitVec.eq_of_toNat_eq
  simp
theorem uu {a b : Nat} (ha : a < 9223372036854775808) (hb : b < 9223372036854775808) : y5 .i64 a b = ((a &&& b : Nat) : Int) := by
  show IntKind.i64.wrap ((BitVec.ofInt 64 (a : Int) &&& BitVec.ofInt 64 (b : Int)).toNat : Int) = _
  simp only [jB, BitVec.toNat_and, BitVec.toNat_ofNat]
  rw [Nat.mod_eq_of_lt (by omega), Nat.mod_eq_of_lt (by omega)]
  have : a &&& b ≤ a := Nat.and_le_left
  exact qR (by omega) (by omega)
theorem j9 {a b : Nat} : jP (a : Int) (b : Int) = ((a % b : Nat) : Int) := by
  unfold jP
  rw [Int.ofNat_tmod]
theorem yw {k : IntKind} {a n : Nat} (hn : n ≤ k.bits) : xp k (a : Int) (n : Int) = ((a / 2 ^ n : Nat) : Int) := by
  unfold xp
  rw [Int.toNat_natCast, Nat.min_eq_left hn, Int.fdiv_eq_ediv_of_nonneg _ (Int.pow_nonneg (by decide))]
  simp
theorem ux {a n : Nat} (hn : n ≤ 32) (h : a * 2 ^ n < 4294967296) : jp .u32 (a : Int) (n : Int) = ((a * 2 ^ n : Nat) : Int) := by
  unfold jp
  rw [Int.toNat_natCast, show min n IntKind.u32.bits = n from Nat.min_eq_left hn]
  have e : (a : Int) * 2 ^ n = ((a * 2 ^ n : Nat) : Int) := by push_cast; rfl
  rw [e]
  exact yH (by omega) (by omega)
end Go.Pu

namespace Go.Pn
open Go Go.Sl Go.Pu
theorem uR {lo hi : Int} {n : Nat} (h0 : 0 ≤ lo) (h1 : lo ≤ hi) (h2 : hi ≤ (n : Int)) : subok lo hi n = true := yf.2 ⟨h0, h1, h2⟩
theorem y7 {n k : Nat} (h : n * k ≤ 140737488355328) : room n k = true := decide_eq_true h
theorem zv {n : Nat} (h : n ≤ 9223372036854775807) : xH n = true := decide_eq_true h
theorem jM {x : Int} (h : 0 ≤ x) : decide (0 ≤ x) = true := decide_eq_true h
section
variable {α : Type}
theorem qQ {p : Prop} [Decidable p] (a b : α) : cond (decide p) a b = if p then a else b := by
  by_cases h : p <;> simp [h]
theorem j0 (x : Bool) (a b : α) : cond (!x) a b = cond x b a := by cases x <;> rfl
theorem u0 (x y : Bool) (a b : α) : cond (x || y) a b = cond x a (cond y a b) := by cases x <;> rfl
end
theorem zN {i n : Nat} (h : i < n) : inb (i : Int) n = true := by simp only [inb, decide_eq_true_eq]; omega
theorem vz (n : Nat) : wr .u8 (n : Int) = ((n % 256 : Nat) : Int) := by rw [Q9]; rfl
theorem uQ {α : Type} (s : List α) (n : Nat) : sub s 0 (n : Int) = s.take n := by simp [sub]
theorem xB (l : List UInt8) : (l.map xP).map jn = l := by
  rw [List.map_map]
  have : (jn ∘ xP) = id := by funext x; simp [jn, xP]
  rw [this, List.map_id]
theorem jC {n : Nat} (h : n < 256) : xP (UInt8.ofNat n) = (n : Int) := by
  unfold xP
  have : (UInt8.ofNat n).toNat = n % 256 := by simp
  rw [this, Nat.mod_eq_of_lt h]
theorem yX {α : Type} [Inhabited α] (A : List α) (x : α) (B : List α) {i : Int} (h : i = (A.length : Int)) : rd (A ++ x :: B) i = x := by
  subst h; simp [rd, List.getD]
theorem uO {α : Type} (A : List α) (x y : α) (B : List α) {i : Int} (h : i = (A.length : Int)) : (A ++ x :: B).set (Int.toNat i) y = A ++ y :: B := by
  subst h; simp
def Qr (s : List UInt8) (i : Nat) : Nat := (s.getD i 0).toNat
theorem QY {n : Nat} (h : n < 9223372036854775808) : y5 .i64 (n : Int) 3 = ((n % 4 : Nat) : Int) := by
  have := uu (a := n) (b := 3) h (by decide)
  rw [show ((3 : Nat) : Int) = 3 from rfl] at this
  rw [this, show n &&& 3 = n % 4 from Nat.and_two_pow_sub_one_eq_mod n 2]
def Qt (w : Nat) : Prop := w = 1 ∨ w = 2 ∨ w = 4 ∨ w = 8
def yg (s : List UInt8) (at_ : Nat) : Nat → Nat
  | 0 => 0
  | w + 1 => yg s at_ w * 256 + Qr s (at_ + w)
def QF (s : List UInt8) (w : Nat) : Nat → Nat
  | 0 => 0
  | i + 1 => QF s w i + Qr s (w - 1 - i) * 2 ^ (8 * i)
def xR : Nat → Nat → List UInt8
  | 0, _ => []
  | w + 1, A => UInt8.ofNat (A / 256 ^ w % 256) :: xR w A
theorem zy : ∀ w A, (xR w A).length = w
  | 0, _ => rfl
  | w + 1, A => by rw [xR, List.length_cons, zy w A]
def xm (i : Nat) : List UInt8 → Nat
  | [] => 0
  | x :: r => x.toNat * 256 ^ (3 - i % 4) + xm (i + 1) r
def xx (s : List UInt8) : Nat := xm 0 s % 4294967296
theorem vy (s : List UInt8) : xx s < 4294967296 := Nat.mod_lt _ (by decide)
theorem jm (i : Nat) : ∀ a b : List UInt8, xm i (a ++ b) = xm i a + xm (i + a.length) b := by
  intro a
  induction a generalizing i with
  | nil => intro b; simp [xm]
  | cons x a ih => intro b; rw [List.cons_append, xm, xm, ih, List.length_cons, show i + 1 + a.length = i + (a.length + 1) by omega]; omega
theorem uU (i j : Nat) (h : i % 4 = j % 4) : ∀ a : List UInt8, xm i a = xm j a := by
  intro a
  induction a generalizing i j with
  | nil => rfl
  | cons x a ih => rw [xm, xm, h, ih (i + 1) (j + 1) (by omega)]
theorem jK (i : Nat) : ∀ n, xm i (List.replicate n 0) = 0
  | 0 => rfl
  | n + 1 => by rw [List.replicate_succ, xm, jK (i + 1) n]; simp
end Go.Pn

set_option maxRecDepth 100000
namespace Go.Pn
open Go Go.Sl Go.Pu Go.Mo
theorem vj (K : Nat) (w : Nat) (hw : Qt w) : xd.m K (w : Int) = .ok true := by
  rcases hw with rfl | rfl | rfl | rfl <;> rfl
def ZB (s : List UInt8) (at_ w : Nat) : Nat × Int := if at_ + w ≤ s.length then (yg s at_ w, 0) else (0, 2)
theorem uG (K : Nat) (w : Nat) (hw : Qt w) : xr.m K (w : Int) = .ok true := by
  rcases hw with rfl | rfl | rfl | rfl <;> rfl
def vI : List UInt8 := [0, 1, 2, 2, 3, 3, 3, 3, 4, 4, 4, 4, 4, 4, 4, 4, 5, 5, 5, 5, 5, 5, 5, 5, 5, 5, 5, 5, 5, 5, 5, 5, 6, 6, 6, 6, 6, 6, 6, 6, 6, 6, 6, 6, 6, 6, 6, 6, 6, 6, 6, 6, 6, 6, 6, 6, 6, 6, 6, 6, 6, 6, 6, 6, 7, 7, 7, 7, 7, 7, 7, 7, 7, 7, 7, 7, 7, 7, 7, 7, 7, 7, 7, 7, 7, 7, 7, 7, 7, 7, 7, 7, 7, 7, 7, 7, 7, 7, 7, 7, 7, 7, 7, 7, 7, 7, 7, 7, 7, 7, 7, 7, 7, 7, 7, 7, 7, 7, 7, 7, 7, 7, 7, 7, 7, 7, 7, 7, 8, 8, 8, 8, 8, 8, 8, 8, 8, 8, 8, 8, 8, 8, 8, 8, 8, 8, 8, 8, 8, 8, 8, 8, 8, 8, 8, 8, 8, 8, 8, 8, 8, 8, 8, 8, 8, 8, 8, 8, 8, 8, 8, 8, 8, 8, 8, 8, 8, 8, 8, 8, 8, 8, 8, 8, 8, 8, 8, 8, 8, 8, 8, 8, 8, 8, 8, 8, 8, 8, 8, 8, 8, 8, 8, 8, 8, 8, 8, 8, 8, 8, 8, 8, 8, 8, 8, 8, 8, 8, 8, 8, 8, 8, 8, 8, 8, 8, 8, 8, 8, 8, 8, 8, 8, 8, 8, 8, 8, 8, 8, 8, 8, 8, 8, 8, 8, 8, 8, 8, 8, 8, 8, 8, 8, 8, 8, 8]
theorem uh : ∀ v : Nat, v < 256 → ∀ m : Nat, m < 9 → ((rd vI (v : Int)).toNat ≤ m ↔ v < 2 ^ m) := by decide +kernel
def yV (x r : Nat) : Prop := ∀ m : Nat, r ≤ m ↔ x < 2 ^ m
theorem vc {x r : Nat} (hx : x < 256) (h : ∀ m, m < 9 → (r ≤ m ↔ x < 2 ^ m)) : yV x r := by
  intro m
  by_cases hm : m < 9
  · exact h m hm
  · have h8 := (h 8 (by omega)).2 (by omega)
    have : 2 ^ 8 ≤ 2 ^ m := Nat.pow_le_pow_right (by decide) (by omega)
    constructor <;> intro _ <;> omega
theorem yo {x r j : Nat} (hx : 2 ^ j ≤ x) (h : yV (x / 2 ^ j) r) : yV x (j + r) := by
  intro m
  by_cases hm : j ≤ m
  · have e : x / 2 ^ j < 2 ^ (m - j) ↔ x < 2 ^ m := by
      rw [Nat.div_lt_iff_lt_mul (Nat.two_pow_pos j), ← Nat.pow_add, show m - j + j = m by omega]
    rw [← e, ← h (m - j)]; omega
  · have : 2 ^ m < 2 ^ j := Nat.pow_lt_pow_right (by decide) (by omega)
    constructor <;> intro _ <;> omega
theorem vd (K x n : Nat) (hx : x < 256) (hn : n ≤ 64) : ∃ r : Nat, yV x r ∧ qk.j3 K (x : Int) (n : Int) = .ok ((n + r : Nat) : Int) := by
  have ht := uh x hx
  have e : wr .u8 (x : Int) = (x : Int) := Qp (by omega) (by omega)
  unfold qk.j3
  rw [e, zN (by simpa using hx), qz, qU]
  show ∃ r : Nat, yV x r ∧ qO.ok (qC ((n : Int) + wr .i64 (((rd vI (x : Int)).toNat : Nat) : Int))) = .ok ((n + r : Nat) : Int)
  generalize (rd vI (x : Int)).toNat = q at ht ⊢
  have hq := (ht 8 (by omega)).2 (by omega)
  have e2 : wr .i64 (q : Int) = (q : Int) := jl (by omega) (by omega)
  rw [e2, qR (by omega) (by omega)]
  exact ⟨q, vc hx ht, by rw [Int.natCast_add]⟩
theorem Q2 (K x : Nat) (hx : x < 18446744073709551616) : ∃ r : Nat, yV x r ∧ qk.m K (x : Int) = .ok (r : Int) := by
  have j2 : ∀ y n : Nat, y < 65536 → n ≤ 48 → ∃ r : Nat, yV y r ∧ qk.j2 K (y : Int) (n : Int) = .ok ((n + r : Nat) : Int) := by
    intro y n hy hn
    unfold qk.j2
    rw [qQ]
    by_cases h : y ≥ 256
    · have e : xp .u64 (y : Int) 8 = ((y / 256 : Nat) : Int) := yw (n := 8) (by decide)
      rw [if_pos (by omega), qU, qU, e, qR (by omega) (by omega), show (n : Int) + 8 = ((n + 8 : Nat) : Int) from by omega]
      obtain ⟨r, hr, h2⟩ := vd K (y / 256) (n + 8) (by omega) (by omega)
      exact ⟨8 + r, yo (j := 8) (by omega) hr, by rw [h2, Nat.add_assoc]⟩
    · rw [if_neg (by omega)]
      exact vd K y n (by omega) (by omega)
  have j1 : ∀ y n : Nat, y < 4294967296 → n ≤ 32 → ∃ r : Nat, yV y r ∧ qk.j1 K (y : Int) (n : Int) = .ok ((n + r : Nat) : Int) := by
    intro y n hy hn
    unfold qk.j1
    rw [qQ]
    by_cases h : y ≥ 65536
    · have e : xp .u64 (y : Int) 16 = ((y / 65536 : Nat) : Int) := yw (n := 16) (by decide)
      rw [if_pos (by omega), qU, qU, e, qR (by omega) (by omega), show (n : Int) + 16 = ((n + 16 : Nat) : Int) from by omega]
      obtain ⟨r, hr, h2⟩ := j2 (y / 65536) (n + 16) (by omega) (by omega)
      exact ⟨16 + r, yo (j := 16) (by omega) hr, by rw [h2, Nat.add_assoc]⟩
    · rw [if_neg (by omega)]
      exact j2 y n (by omega) (by omega)
  unfold qk.m
  rw [qQ]
  by_cases h : x ≥ 4294967296
  · have e : xp .u64 (x : Int) 32 = ((x / 4294967296 : Nat) : Int) := yw (n := 32) (by decide)
    rw [if_pos (by omega), qU, e, show (32 : Int) = ((32 : Nat) : Int) from rfl]
    obtain ⟨r, hr, h2⟩ := j1 (x / 4294967296) 32 (by omega) (by omega)
    exact ⟨32 + r, yo (j := 32) (by omega) hr, h2⟩
  · rw [if_neg (by omega), show (0 : Int) = ((0 : Nat) : Int) from rfl]
    obtain ⟨r, hr, h2⟩ := j1 x 0 (by omega) (by omega)
    rw [Nat.zero_add] at h2
    exact ⟨r, hr, h2⟩
theorem vx (K A w : Nat) (hw : w ≤ 8) (z : List Int) (hz : z.length = w) : ∀ (j k i : Nat), i + j = w → j < k →
    qL.l1 K (A : Int) (w : Int) z k (List.replicate (w - i) 0 ++ (xR i A).map xP) (i : Int) = .ok (xR w A, 0) := by
  intro j
  induction j with
  | zero =>
    intro k i hi hk
    obtain ⟨k, rfl⟩ : ∃ m, k = m + 1 := ⟨k - 1, by omega⟩
    have : i = w := by omega
    subst this
    rw [qL.l1, qQ, if_neg (by omega), qU, Nat.sub_self]
    simp only [List.replicate_zero, List.nil_append, xB]
  | succ j ih =>
    intro k i hi hk
    obtain ⟨k, rfl⟩ : ∃ m, k = m + 1 := ⟨k - 1, by omega⟩
    have e1 : qC (qC ((w : Int) - 1) - (i : Int)) = ((w - 1 - i : Nat) : Int) := by rw [qR (x := (w : Int) - 1) (by omega) (by omega), qR (by omega) (by omega)]; omega
    have e2 : qC ((8 : Int) * (i : Int)) = ((8 * i : Nat) : Int) := by rw [qR (by omega) (by omega)]; omega
    have e3 : qC ((i : Int) + 1) = ((i + 1 : Nat) : Int) := by rw [qR (by omega) (by omega)]; omega
    have hl : (List.replicate (w - i) (0 : Int) ++ (xR i A).map xP).length = w := by simp only [List.length_append, List.length_replicate, List.length_map, zy]; omega
    have hset : (List.replicate (w - i) (0 : Int) ++ (xR i A).map xP).set (w - 1 - i) ((A / 256 ^ i % 256 : Nat) : Int) = List.replicate (w - (i + 1)) 0 ++ (xR (i + 1) A).map xP := by
      have e : List.replicate (w - i) (0 : Int) ++ (xR i A).map xP = List.replicate (w - (i + 1)) 0 ++ 0 :: (xR i A).map xP := by
        rw [show w - i = (w - (i + 1)) + 1 by omega, List.replicate_succ']; simp
      have := uO (List.replicate (w - (i + 1)) (0 : Int)) 0 ((A / 256 ^ i % 256 : Nat) : Int) ((xR i A).map xP) (i := ((w - 1 - i : Nat) : Int)) (by rw [List.length_replicate]; omega)
      rw [e, Int.toNat_natCast] at *
      rw [this, xR, List.map_cons, jC (Nat.mod_lt _ (by decide))]
    rw [qL.l1, qQ, if_pos (by omega), e2, jM (by omega), qz]
    unfold zt.m
    rw [e1, qU, qO.bind_ok, zN (by rw [hl]; omega), qz, qU, e3, yw (show 8 * i ≤ 64 by omega), vz, show 2 ^ (8 * i) = 256 ^ i from by rw [Nat.pow_mul], Int.toNat_natCast, hset]
    exact ih k (i + 1) (by omega) (by omega)
def xS (w A : Nat) : List UInt8 × Int := if A < 256 ^ w then (xR w A, 0) else ([], 10)
theorem vw (K A w : Nat) (hw : Qt w) (hA : A < 18446744073709551616) (hK : 8 < K) : qL.m K (A : Int) (w : Int) = .ok (xS w A) := by
  have hw8 : w ≤ 8 := by unfold Qt at hw; omega
  obtain ⟨r, hr, h⟩ := Q2 K A hA
  unfold qL.m xS
  rw [vj K w hw, qO.bind_ok, Bool.not_true, cond_false, h, qO.bind_ok, qQ, qR (by omega) (by omega)]
  have hm := hr (8 * w)
  rw [Nat.pow_mul, show (2 : Nat) ^ 8 = 256 from rfl] at hm
  by_cases hf : A < 256 ^ w
  · have := hm.2 hf
    have hl := vx K A w hw8 (List.replicate w 0) (List.length_replicate ..) w K 0 (by omega) (by omega)
    simp only [Nat.sub_zero, xR, List.map_nil, List.append_nil] at hl
    rw [if_pos hf, if_neg (by omega)]
    unfold zE.m
    rw [qO.bind_ok, jM (by omega), Bool.true_and, y7 (by omega), qz, qU, Int.toNat_natCast]
    exact hl
  · rw [if_neg hf, if_pos (by omega)]
theorem vl (K A w : Nat) (hw : w ≤ 8) (hA : A < 18446744073709551616) : ∀ (j k i : Nat), i + j = w → j < k →
    qq.l1 K (w : Int) true k ((A / 256 ^ i : Nat) : Int) (List.replicate (w - i) 0 ++ (xR i A).map xP) (i : Int) = .ok (xS w A) := by
  intro j
  induction j with
  | zero =>
    intro k i hi hk
    obtain ⟨k, rfl⟩ : ∃ m, k = m + 1 := ⟨k - 1, by omega⟩
    have : i = w := by omega
    subst this
    rw [qq.l1, qQ, if_neg (by omega)]
    unfold qq.j3 xS
    rw [qQ]
    by_cases hf : A < 256 ^ i
    · rw [if_pos hf, Nat.div_eq_of_lt hf, if_neg (by omega), qU, Nat.sub_self]
      simp only [List.replicate_zero, List.nil_append, xB]
    · have : 0 < A / 256 ^ i := Nat.div_pos (by omega) (Nat.pow_pos (by decide))
      rw [if_neg hf, if_pos (by omega)]
  | succ j ih =>
    intro k i hi hk
    obtain ⟨k, rfl⟩ : ∃ m, k = m + 1 := ⟨k - 1, by omega⟩
    have hle : A / 256 ^ i ≤ A := Nat.div_le_self _ _
    have e1 : qC (qC ((w : Int) - 1) - (i : Int)) = ((w - 1 - i : Nat) : Int) := by rw [qR (x := (w : Int) - 1) (by omega) (by omega), qR (by omega) (by omega)]; omega
    have e3 : qC ((i : Int) + 1) = ((i + 1 : Nat) : Int) := by rw [qR (by omega) (by omega)]; omega
    have hl : (List.replicate (w - i) (0 : Int) ++ (xR i A).map xP).length = w := by simp only [List.length_append, List.length_replicate, List.length_map, zy]; omega
    have hset : (List.replicate (w - i) (0 : Int) ++ (xR i A).map xP).set (w - 1 - i) ((A / 256 ^ i % 256 : Nat) : Int) = List.replicate (w - (i + 1)) 0 ++ (xR (i + 1) A).map xP := by
      have e : List.replicate (w - i) (0 : Int) ++ (xR i A).map xP = List.replicate (w - (i + 1)) 0 ++ 0 :: (xR i A).map xP := by
        rw [show w - i = (w - (i + 1)) + 1 by omega, List.replicate_succ']; simp
      have := uO (List.replicate (w - (i + 1)) (0 : Int)) 0 ((A / 256 ^ i % 256 : Nat) : Int) ((xR i A).map xP) (i := ((w - 1 - i : Nat) : Int)) (by rw [List.length_replicate]; omega)
      rw [e, Int.toNat_natCast] at *
      rw [this, xR, List.map_cons, jC (Nat.mod_lt _ (by decide))]
    have e5 : jP ((A / 256 ^ i : Nat) : Int) 256 = ((A / 256 ^ i % 256 : Nat) : Int) := j9 (b := 256)
    have e6 : vG .u64 ((A / 256 ^ i : Nat) : Int) 256 = ((A / 256 ^ (i + 1) : Nat) : Int) := by
      unfold vG
      have e : Int.tdiv ((A / 256 ^ i : Nat) : Int) 256 = ((A / 256 ^ i / 256 : Nat) : Int) := (Int.ofNat_tdiv (A / 256 ^ i) 256).symm
      rw [e, Nat.div_div_eq_div_mul, show 256 ^ i * 256 = 256 ^ (i + 1) from (Nat.pow_succ ..).symm]
      have := Nat.div_le_self A (256 ^ (i + 1))
      generalize A / 256 ^ (i + 1) = z at this
      exact yd (by omega) (by omega)
    rw [qq.l1, qQ, if_pos (by omega), cond_true, qU]
    unfold qq.j2
    rw [e1, zN (by rw [hl]; omega), qz, qU, qU, qU, e3, e5, e6, vz, Nat.mod_mod, Int.toNat_natCast, hset]
    exact ih k (i + 1) (by omega) (by omega)
theorem vk (K A w : Nat) (hw : Qt w) (hA : A < 18446744073709551616) (hK : 8 < K) : qq.m K (A : Int) (w : Int) true = .ok (xS w A) := by
  have hw8 : w ≤ 8 := by unfold Qt at hw; omega
  have hl := vl K A w hw8 hA w K 0 (by omega) (by omega)
  simp only [Nat.sub_zero, xR, List.map_nil, List.append_nil, Nat.pow_zero, Nat.div_one] at hl
  unfold qq.m
  rw [uG K w hw, qO.bind_ok, Bool.not_true, cond_false, jM (by omega), Bool.true_and, y7 (by omega), qz, qU, Int.toNat_natCast]
  exact hl
theorem jQ (K : Nat) (s : List UInt8) (hs : s.length < 140737488355328) : ∀ (k : Nat) (D T : List UInt8) (n : Nat), D ++ T = s → T.length < k → n < 4294967296 →
    q8.l1 K s k (n : Int) (D.length : Int) = .ok (((n + xm D.length T) % 4294967296 : Nat) : Int) := by
  intro k
  induction k with
  | zero => intro D T n _ h; omega
  | succ k ih =>
    intro D T n h1 hk hn
    have hlen : D.length + T.length = s.length := by rw [← h1]; simp
    rw [q8.l1, qQ]
    cases T with
    | nil =>
      rw [if_neg (by simp only [List.length_nil] at hlen; omega), xm, Nat.add_zero, Nat.mod_eq_of_lt hn]
    | cons x T =>
      simp only [List.length_cons] at hlen hk
      have e1 : rd s (D.length : Int) = x := by rw [← h1]; exact yX D x T rfl
      have e3 : qC ((D.length : Int) + 1) = ((D ++ [x]).length : Int) := by rw [qR (by omega) (by omega)]; simp
      have hx := x.toNat_lt
      have hd : D.length % 4 < 4 := Nat.mod_lt _ (by decide)
      have e4 : qC ((24 : Int) - qC (8 * ((D.length % 4 : Nat) : Int))) = ((24 - 8 * (D.length % 4) : Nat) : Int) := by
        rw [qR (x := 8 * _) (by omega) (by omega), qR (by omega) (by omega)]; omega
      have hpow : 2 ^ (24 - 8 * (D.length % 4)) = 256 ^ (3 - D.length % 4) := by rw [show 24 - 8 * (D.length % 4) = 8 * (3 - D.length % 4) by omega, Nat.pow_mul]
      have hple : 256 ^ (3 - D.length % 4) ≤ 256 ^ 3 := Nat.pow_le_pow_right (by decide) (by omega)
      have hm : x.toNat * 256 ^ (3 - D.length % 4) ≤ 255 * 256 ^ 3 := Nat.mul_le_mul (by omega) hple
      rw [if_pos (by omega), zN (by omega), qz, e1, QY (by omega), e4, jM (by omega), qz, qU, yH (x := ((x.toNat : Nat) : Int)) (by omega) (by omega), ux (by omega) (by rw [hpow]; omega), hpow, v8, e3]
      have e5 : ((n : Int) + ((x.toNat * 256 ^ (3 - D.length % 4) : Nat) : Int)) % 4294967296 = (((n + x.toNat * 256 ^ (3 - D.length % 4)) % 4294967296 : Nat) : Int) := by omega
      rw [e5, ih (D ++ [x]) T _ (by rw [← h1]; simp) (by omega) (Nat.mod_lt _ (by decide)), xm, List.length_append, List.length_singleton]
      congr 2
      omega
theorem yN (K : Nat) (s : List UInt8) (hs : s.length < 140737488355328) (hK : s.length < K) : q8.m K s = .ok ((xx s : Nat) : Int) := by
  have := jQ K s hs K [] s 0 rfl hK (by decide)
  rw [Nat.zero_add] at this
  exact this
theorem vn (K : Nat) (g : Int → Int → qO Int) (n i : Nat) (hn : n < 4294967296) (hi : i < 140737488355328) : ∀ (j k q b : Nat), q + j = 3 → j < k → b < 256 ^ (q + 1) →
    qm.l2 K g (n : Int) (i : Int) k (b : Int) (q : Int) = g (((n + b * 256 ^ j) % 4294967296 : Nat) : Int) ((i + 1 : Nat) : Int) := by
  intro j
  induction j with
  | zero =>
    intro k q b hq hk hb
    obtain ⟨k, rfl⟩ : ∃ m, k = m + 1 := ⟨k - 1, by omega⟩
    have e3 : qC ((i : Int) + 1) = ((i + 1 : Nat) : Int) := by rw [qR (by omega) (by omega)]; omega
    rw [qm.l2, qQ, if_neg (by omega), qU, qU, e3, v8, Nat.pow_zero, Nat.mul_one]
    congr 1
  | succ j ih =>
    intro k q b hq hk hb
    obtain ⟨k, rfl⟩ : ∃ m, k = m + 1 := ⟨k - 1, by omega⟩
    have e3 : qC ((q : Int) + 1) = ((q + 1 : Nat) : Int) := by rw [qR (by omega) (by omega)]; omega
    have hp : 256 ^ (q + 1) ≤ 256 ^ 3 := Nat.pow_le_pow_right (by decide) (by omega)
    have hb2 : b * 256 < 256 ^ (q + 1 + 1) := by rw [Nat.pow_succ]; omega
    have e4 : wr .u32 ((b : Int) * 256) = ((b * 256 : Nat) : Int) := by rw [yH (by omega) (by omega)]; omega
    rw [qm.l2, qQ, if_pos (by omega), qU, qU, e3, e4, ih k (q + 1) (b * 256) (by omega) (by omega) hb2, Nat.mul_assoc, Nat.pow_succ, Nat.mul_comm 256]
theorem vm (K : Nat) (hK : 4 < K) (s : List UInt8) (hs : s.length < 140737488355328) : ∀ (k : Nat) (D T : List UInt8) (n : Nat), D ++ T = s → T.length < k → n < 4294967296 →
    qm.l1 K s k (n : Int) (D.length : Int) = .ok (((n + xm D.length T) % 4294967296 : Nat) : Int) := by
  intro k
  induction k with
  | zero => intro D T n _ h; omega
  | succ k ih =>
    intro D T n h1 hk hn
    have hlen : D.length + T.length = s.length := by rw [← h1]; simp
    rw [qm.l1, qQ]
    cases T with
    | nil =>
      rw [if_neg (by simp only [List.length_nil] at hlen; omega), xm, Nat.add_zero, Nat.mod_eq_of_lt hn]
    | cons x T =>
      simp only [List.length_cons] at hlen hk
      have e1 : rd s (D.length : Int) = x := by rw [← h1]; exact yX D x T rfl
      have hx := x.toNat_lt
      have hd : D.length % 4 < 4 := Nat.mod_lt _ (by decide)
      have e2 : jP (D.length : Int) 4 = ((D.length % 4 : Nat) : Int) := j9 (b := 4)
      have hb : x.toNat < 256 ^ (D.length % 4 + 1) := by
        have : 256 ^ 1 ≤ 256 ^ (D.length % 4 + 1) := Nat.pow_le_pow_right (by decide) (by omega)
        omega
      rw [if_pos (by omega), zN (by omega), qz, e1, qU, qU, e2, yH (x := ((x.toNat : Nat) : Int)) (by omega) (by omega), vn K _ n D.length hn (by omega) (3 - D.length % 4) K (D.length % 4) x.toNat (by omega) (by omega) hb]
      rw [show ((D.length + 1 : Nat) : Int) = ((D ++ [x]).length : Int) from by simp, ih (D ++ [x]) T _ (by rw [← h1]; simp) (by omega) (Nat.mod_lt _ (by decide)), xm, List.length_append, List.length_singleton]
      congr 2
      omega
theorem uH (K : Nat) (s : List UInt8) (hs : s.length < 140737488355328) (hK : s.length < K) (hK2 : 4 < K) : qm.m K s = .ok ((xx s : Nat) : Int) := by
  have := vm K hK2 s hs K [] s 0 rfl hK (by decide)
  rw [Nat.zero_add] at this
  exact this
end Go.Pn

set_option maxRecDepth 100000
namespace Go.Pn
open Go Go.Sl Go.Pu Go.Mo
abbrev Tb := qb
def QV (x : UInt8) : Bool := decide (32 ≤ x.toNat ∧ x.toNat ≤ 126)
def vr (s : List UInt8) : Bool := s.all QV && decide (s.length = 4)
theorem vt {s : List UInt8} (h : vr s = true) : s.length = 4 := by
  unfold vr at h; rw [Bool.and_eq_true] at h; exact of_decide_eq_true h.2
theorem uy (n : Nat) : ((n : Int) == (4 : Int)) = decide (n = 4) := by
  rw [Bool.eq_iff_iff]; simp only [beq_iff_eq, decide_eq_true_eq]; omega
theorem vM (K : Nat) (s : List UInt8) (hs : s.length ≤ 9223372036854775807) : ∀ (k : Nat) (D T : List UInt8), D ++ T = s → T.length < k →
    za.l1 K s (s.map xP) k (D.length : Int) = .ok (T.all QV && decide (s.length = 4)) := by
  intro k
  induction k with
  | zero => intro D T _ h; omega
  | succ k ih =>
    intro D T h1 hk
    have hlen : D.length + T.length = s.length := by rw [← h1]; simp
    rw [za.l1, qQ, List.length_map]
    cases T with
    | nil =>
      rw [if_neg (by simp only [List.length_nil] at hlen; omega), qU, List.all_nil, Bool.true_and, uy]
    | cons x T =>
      simp only [List.length_cons] at hlen hk
      have e1 : rd (s.map xP) (D.length : Int) = xP x := by rw [← h1, List.map_append, List.map_cons]; exact yX _ _ _ (by rw [List.length_map])
      have e3 : qC ((D.length : Int) + 1) = ((D ++ [x]).length : Int) := by rw [qR (by omega) (by omega)]; simp
      have e4 : (decide (xP x < (32 : Int)) || decide (xP x > (126 : Int))) = !QV x := by
        unfold QV xP
        rw [Bool.eq_iff_iff]; simp only [Bool.or_eq_true, decide_eq_true_eq, Bool.not_eq_true', decide_eq_false_iff_not]; omega
      rw [if_pos (by omega), zN (by omega), qz, qU, e1, e4, e3, List.all_cons]
      cases hx : QV x with
      | false => rfl
      | true =>
        rw [Bool.not_true, cond_false, Bool.true_and]
        exact ih (D ++ [x]) T (by rw [← h1]; simp) (by omega)
theorem Qh (K : Nat) (s : List UInt8) (hs : s.length ≤ 9223372036854775807) (hK : s.length < K) : za.m K s = .ok (vr s) := by
  unfold za.m
  rw [zv hs, qz, qU]
  exact vM K s hs K [] s rfl hK
def yG (n : Nat) : Nat := (n + 3) / 4 * 4
theorem ul (x : BitVec 64) : x &&& ~~~ 3#64 = (x >>> 2) <<< 2 := by
  apply BitVec.eq_of_getLsbD_eq
  intro i hi
  rcases i with _ | _ | i
  · simp
  · simp
  · have : (3#64).getLsbD (i + 2) = false := by
      simp only [BitVec.getLsbD_ofNat]
      have : Nat.testBit 3 (i + 2) = false := by
        rw [Nat.testBit_eq_decide_div_mod_eq]
        have : 3 / 2 ^ (i + 2) = 0 := Nat.div_eq_of_lt (by rw [Nat.pow_add]; have := Nat.two_pow_pos i; omega)
        rw [this]; rfl
      rw [this]; simp
    rw [BitVec.getLsbD_and, BitVec.getLsbD_not, BitVec.getLsbD_shiftLeft, BitVec.getLsbD_ushiftRight, show i + 1 + 1 = i + 2 from rfl, this]
    have h2 : decide (i + 2 < 64) = true := decide_eq_true hi
    have h3 : decide (i + 2 < 2) = false := decide_eq_false (by omega)
    rw [h2, h3, show 2 + (i + 2 - 2) = i + 2 by omega]; simp
theorem QU {n : Nat} (h : n < 9223372036854775804) : j6 .i64 (n : Int) 3 = ((n / 4 * 4 : Nat) : Int) := by
  show IntKind.i64.wrap ((BitVec.ofInt 64 (n : Int) &&& ~~~ BitVec.ofInt 64 (3 : Int)).toNat : Int) = _
  have e : (BitVec.ofInt 64 (n : Int) &&& ~~~ BitVec.ofInt 64 (3 : Int)).toNat = n / 4 * 4 := by
    rw [jB, show BitVec.ofInt 64 (3 : Int) = 3#64 from rfl, ul]; simp; omega
  rw [e]
  exact qR (by omega) (by omega)
theorem jE (K n : Nat) (h : n < 9223372036854775000) : zD.m K (n : Int) = .ok ((yG n : Nat) : Int) := by
  unfold zD.m yG
  rw [qR (by omega) (by omega), show (n : Int) + 3 = ((n + 3 : Nat) : Int) by omega, QU (by omega), qU]
theorem w4 : Qt 4 := .inr (.inr (.inl rfl))
theorem w2 : Qt 2 := .inr (.inl rfl)
theorem v4 (K n : Nat) (h : n < 4294967296) (hK : 8 < K) : yc.m K (n : Int) = .ok (xR 4 n) := by
  unfold yc.m
  have := vw K n 4 w4 (by omega) hK
  rw [show ((4 : Nat) : Int) = 4 from rfl] at this
  rw [yd (by omega) (by omega), this, qO.bind_ok]
  unfold xS
  rw [if_pos (by omega)]
theorem v3 (K n : Nat) (h : n < 65536) (hK : 8 < K) : yb.m K (n : Int) = .ok (xR 2 n) := by
  unfold yb.m
  have := vw K n 2 w2 (by omega) hK
  rw [show ((2 : Nat) : Int) = 2 from rfl] at this
  rw [yd (by omega) (by omega), this, qO.bind_ok]
  unfold xS
  rw [if_pos (by omega)]
theorem Zm (K n : Nat) (h : n < 4294967296) (hK : 8 < K) : xt.m K (n : Int) = .ok (xR 4 n) := by
  unfold xt.m
  have := vk K n 4 w4 (by omega) hK
  rw [show ((4 : Nat) : Int) = 4 from rfl] at this
  rw [yd (by omega) (by omega), this, qO.bind_ok]
  unfold xS
  rw [if_pos (by omega)]
theorem Qi (K n : Nat) (h : n < 65536) (hK : 8 < K) : zr.m K (n : Int) = .ok (xR 2 n) := by
  unfold zr.m
  have := vk K n 2 w2 (by omega) hK
  rw [show ((2 : Nat) : Int) = 2 from rfl] at this
  rw [yd (by omega) (by omega), this, qO.bind_ok]
  unfold xS
  rw [if_pos (by omega)]
def xI (kind n : Nat) : List UInt8 := (((xR 4 kind ++ xR 2 n) ++ xR 2 (16 * 2 ^ n.log2)) ++ xR 2 n.log2) ++ xR 2 (16 * (n - 2 ^ n.log2))
theorem z3 (kind n : Nat) : (xI kind n).length = 12 := by simp [xI, zy]
theorem u4 (K kind n : Nat) (hk : kind < 4294967296) (hn : n ≤ 1000) (hK : 8 < K) : ∀ (k e : Nat), 2 ^ e ≤ n → n < e + k →
    zn.l1 K (kind : Int) (n : Int) k ((2 ^ e : Nat) : Int) (e : Int) = .ok (xI kind n) ∧ zc.l1 K (kind : Int) (n : Int) k ((2 ^ e : Nat) : Int) (e : Int) = .ok (xI kind n) := by
  intro k
  induction k with
  | zero =>
    intro e h1 h2
    have := Nat.lt_two_pow_self (n := e)
    omega
  | succ k ih =>
    intro e h1 h2
    have hlt := Nat.lt_two_pow_self (n := e)
    have e2 : qC ((2 : Int) * ((2 ^ e : Nat) : Int)) = ((2 ^ (e + 1) : Nat) : Int) := by rw [qR (by omega) (by omega), Nat.pow_succ]; omega
    have e2' : qC (((2 ^ e : Nat) : Int) * 2) = ((2 ^ (e + 1) : Nat) : Int) := by rw [qR (by omega) (by omega), Nat.pow_succ]; omega
    have e1 : qC ((e : Int) + 1) = ((e + 1 : Nat) : Int) := by rw [qR (by omega) (by omega)]; omega
    rw [zn.l1, zc.l1, qQ, qQ, e2]
    by_cases hc : 2 ^ (e + 1) ≤ n
    · rw [if_pos (by omega), if_pos (by omega), qU, qU, qU, qU, e1, e2']
      exact ih (e + 1) hc (by omega)
    · rw [if_neg (by omega), if_neg (by omega)]
      have hlog : n.log2 = e := (Nat.log2_eq_iff (by omega)).2 ⟨h1, by omega⟩
      have e3 : wr .i64 (kind : Int) = (kind : Int) := jl (by omega) (by omega)
      have e4 : qC ((16 : Int) * ((2 ^ e : Nat) : Int)) = ((16 * 2 ^ e : Nat) : Int) := by rw [qR (by omega) (by omega)]; omega
      have e5 : qC ((16 : Int) * qC ((n : Int) - ((2 ^ e : Nat) : Int))) = ((16 * (n - 2 ^ e) : Nat) : Int) := by
        rw [qR (x := (n : Int) - _) (by omega) (by omega), qR (by omega) (by omega)]; omega
      unfold xI
      rw [hlog]
      constructor
      · rw [e3, v4 K kind hk hK, qO.bind_ok, v3 K n (by omega) hK, qO.bind_ok, zv (by simp [zy]), qz, e4, v3 K _ (by omega) hK, qO.bind_ok, zv (by simp [zy]), qz,
          v3 K e (by omega) hK, qO.bind_ok, zv (by simp [zy]), qz, e5, v3 K _ (by omega) hK, qO.bind_ok, zv (by simp [zy]), qz, qU]
      · unfold zc.j2
        rw [e3, Zm K kind hk hK, qO.bind_ok, Qi K n (by omega) hK, qO.bind_ok, zv (by simp [zy]), qz, e4, Qi K _ (by omega) hK, qO.bind_ok, zv (by simp [zy]), qz,
          Qi K e (by omega) hK, qO.bind_ok, zv (by simp [zy]), qz, e5, Qi K _ (by omega) hK, qO.bind_ok, zv (by simp [zy]), qz, qU]
theorem uE (K kind n : Nat) (hk : kind < 4294967296) (h1 : 1 ≤ n) (hn : n ≤ 1000) (hK : 1000 < K) : zn.m K (kind : Int) (n : Int) = .ok (xI kind n) :=
  (u4 K kind n hk hn (by omega) K 0 (by simpa using h1) (by omega)).1
def Zl (p : Option (List UInt8)) (t : Tb) : Bool := vr t.Tag_ && ((match p with | none => true | some q => Op.bytesLess q t.Tag_) && decide (t.Data_.length ≤ 16777216))
def ui : Option (List UInt8) → List Tb → Bool
  | _, [] => true
  | p, t :: r => Zl p t && ui (some t.Tag_) r
def js : List Tb → Nat
  | [] => 0
  | t :: r => yG t.Data_.length + js r
def vi (D : List Tb) : Option (List UInt8) := D.getLast?.map (·.Tag_)
theorem jD (D : List Tb) (t : Tb) : vi (D ++ [t]) = some t.Tag_ := by simp [vi]
theorem u3 (K : Nat) (l : List Tb) (hl : l.length ≤ 100000) (hb : ∀ t ∈ l, t.Tag_.length ≤ 9223372036854775807 ∧ t.Tag_.length < K) : ∀ (k : Nat) (D T : List Tb) (all : Nat), D ++ T = l → T.length < k → all + js T < 1099511627776 →
    qw.l1 K l k (all : Int) (D.length : Int) = .ok (ui (vi D) T && ((decide (0 < l.length) && decide (l.length ≤ 1000)) && decide (all + js T < 1073741824))) := by
  intro k
  induction k with
  | zero => intro D T all _ h; omega
  | succ k ih =>
    intro D T all h1 hk hall
    have hlen : D.length + T.length = l.length := by rw [← h1]; simp
    rw [qw.l1, qQ]
    cases T with
    | nil =>
      rw [if_neg (by simp only [List.length_nil] at hlen; omega)]
      unfold qw.j3
      rw [qU, ui, Bool.true_and, js, Nat.add_zero]
      congr 1
      rw [show decide ((l.length : Int) > 0) = decide (0 < l.length) from by rw [decide_eq_decide]; omega, show decide ((l.length : Int) ≤ 1000) = decide (l.length ≤ 1000) from by rw [decide_eq_decide]; omega,
        show decide ((all : Int) < 1073741824) = decide (all < 1073741824) from by rw [decide_eq_decide]; omega]
    | cons t T =>
      simp only [List.length_cons] at hlen hk
      rw [js] at hall
      have e1 : rd l (D.length : Int) = t := by rw [← h1]; exact yX D t T rfl
      have ht := hb t (by rw [← h1]; simp)
      have e3 : qC ((D.length : Int) + 1) = ((D ++ [t]).length : Int) := by rw [qR (by omega) (by omega)]; simp
      have hup : t.Data_.length ≤ yG t.Data_.length := by unfold yG; omega
      have next : qw.j2 K (qw.l1 K l k) l (all : Int) (D.length : Int) false = .ok (ui (some t.Tag_) T && ((decide (0 < l.length) && decide (l.length ≤ 1000)) && decide (all + js (t :: T) < 1073741824))) := by
        unfold qw.j2
        rw [cond_false, e1, jE K _ (by omega), qO.bind_ok, qR (by omega) (by omega), qU, e3, show (all : Int) + ((yG t.Data_.length : Nat) : Int) = ((all + yG t.Data_.length : Nat) : Int) by omega,
          ih (D ++ [t]) T _ (by rw [← h1]; simp) (by omega) (by omega), jD, js, Nat.add_assoc]
      have stop : ∀ g, qw.j2 K g l (all : Int) (D.length : Int) true = .ok false := fun g => rfl
      have eD : decide (((t.Data_.length : Nat) : Int) > 16777216) = !decide (t.Data_.length ≤ 16777216) := by
        rw [Bool.eq_iff_iff]; simp only [Bool.not_eq_true', decide_eq_true_eq, decide_eq_false_iff_not]; omega
      rw [if_pos (by omega), zN (by omega), qz, e1, Qh K _ ht.1 ht.2, qO.bind_ok, eD, ui]
      unfold Zl
      cases htag : vr t.Tag_ with
      | false => rw [cond_false, stop, Bool.false_and, Bool.false_and, Bool.false_and]
      | true =>
        rw [cond_true, qQ, Bool.true_and]
        have dcase : ∀ b : Bool, qw.j2 K (qw.l1 K l k) l (all : Int) (D.length : Int) (!b) = .ok ((b && ui (some t.Tag_) T) && ((decide (0 < l.length) && decide (l.length ≤ 1000)) && decide (all + js (t :: T) < 1073741824))) := by
          intro b
          cases b with
          | false => rw [Bool.not_false, stop, Bool.false_and, Bool.false_and]
          | true => rw [Bool.not_true, next, Bool.true_and]
        rcases List.eq_nil_or_concat D with rfl | ⟨D', q, rfl⟩
        · rw [if_neg (by simp), dcase]; rfl
        · have e4 : qC (((D'.concat q).length : Int) - 1) = (D'.length : Int) := by rw [qR (by omega) (by omega)]; simp
          have e5 : rd l (D'.length : Int) = q := by rw [← h1]; simp only [List.concat_eq_append, List.append_assoc, List.singleton_append]; exact yX D' q _ rfl
          have hi : (D'.concat q).length = D'.length + 1 := by simp
          rw [if_pos (by rw [hi]; omega), e4, zN (by rw [hi] at hlen; omega), qz, e5, j0]
          have ep : vi (D'.concat q) = some q.Tag_ := by rw [List.concat_eq_append]; exact jD D' q
          rw [ep]
          dsimp only
          cases hless : Op.bytesLess q.Tag_ t.Tag_ with
          | false => rw [cond_false, stop, Bool.false_and, Bool.false_and, Bool.false_and]
          | true => rw [cond_true, dcase, Bool.true_and]
theorem uD (K : Nat) (l : List Tb) (hl : l.length ≤ 100000) (hb : ∀ t ∈ l, t.Tag_.length ≤ 9223372036854775807 ∧ t.Tag_.length < K) (hs : js l < 1073741824) (hK : l.length < K) :
    qw.m K l = .ok (ui none l && (decide (0 < l.length) && decide (l.length ≤ 1000))) := by
  have := u3 K l hl hb K [] l 0 rfl hK (by omega)
  rw [Nat.zero_add, decide_eq_true hs, Bool.and_true] at this
  exact this
def vv : List Tb → Nat
  | [] => 0
  | t :: r => t.Data_.length + vv r
theorem uP (K : Nat) (l : List Tb) (hl : l.length ≤ 1001) : ∀ (k : Nat) (D T : List Tb) (n : Nat), D ++ T = l → T.length < k → n ≤ 105000 →
    ∃ b, qD.l1 K l k (n : Int) (D.length : Int) = .ok b ∧ (b = true → n + vv T ≤ 105000 ∧ ∀ t ∈ T, t.Data_.length ≤ 5000) := by
  intro k
  induction k with
  | zero => intro D T n _ h; omega
  | succ k ih =>
    intro D T n h1 hk hn
    have hlen : D.length + T.length = l.length := by rw [← h1]; simp
    rw [qD.l1, qQ]
    cases T with
    | nil =>
      rw [if_neg (by simp only [List.length_nil] at hlen; omega)]
      exact ⟨true, rfl, fun _ => ⟨by simpa [vv] using hn, by simp⟩⟩
    | cons t T =>
      simp only [List.length_cons] at hlen hk
      have e1 : rd l (D.length : Int) = t := by rw [← h1]; exact yX D t T rfl
      have e3 : qC ((D.length : Int) + 1) = ((D ++ [t]).length : Int) := by rw [qR (by omega) (by omega)]; simp
      rw [if_pos (by omega), zN (by omega), qz, e1, u0, qQ, qQ]
      by_cases h5 : t.Data_.length > 5000
      · rw [if_pos (by omega)]; exact ⟨false, rfl, fun h => by cases h⟩
      · rw [if_neg (by omega)]
        by_cases h6 : n > 100000
        · rw [if_pos (by omega)]; exact ⟨false, rfl, fun h => by cases h⟩
        · rw [if_neg (by omega), qU, qU, e3, qR (by omega) (by omega), show (n : Int) + ((t.Data_.length : Nat) : Int) = ((n + t.Data_.length : Nat) : Int) by omega]
          obtain ⟨b, hb, h⟩ := ih (D ++ [t]) T (n + t.Data_.length) (by rw [← h1]; simp) (by omega) (by omega)
          refine ⟨b, hb, fun hbt => ?_⟩
          obtain ⟨q1, q2⟩ := h hbt
          refine ⟨by rw [vv]; omega, fun u hu => ?_⟩
          rcases List.mem_cons.1 hu with rfl | hu
          · omega
          · exact q2 u hu
theorem v7 : ∀ l : List Tb, js l ≤ vv l + 3 * l.length
  | [] => by simp [js]
  | t :: r => by
    have := v7 r
    rw [js, vv, List.length_cons]; unfold yG; omega
theorem Q4 (K : Nat) (l : List Tb) (hK : 1002 ≤ K) : ∃ b, qD.m K l = .ok b ∧ (b = true → l.length ≤ 1001 ∧ vv l ≤ 105000 ∧ js l ≤ 108003 ∧ ∀ t ∈ l, t.Data_.length ≤ 5000) := by
  unfold qD.m
  rw [qQ]
  by_cases h : l.length > 1001
  · rw [if_pos (by omega)]; exact ⟨false, rfl, fun h => by cases h⟩
  · rw [if_neg (by omega)]
    obtain ⟨b, hb, h2⟩ := uP K l (by omega) K [] l 0 rfl (by omega) (by omega)
    refine ⟨b, hb, fun hbt => ?_⟩
    obtain ⟨q1, q2⟩ := h2 hbt
    have := v7 l
    exact ⟨by omega, by omega, by omega, q2⟩
theorem Ql (K : Nat) (l : List Tb) (hl : l.length ≤ 100000) : ∀ (k : Nat) (D T : List Tb), D ++ T = l → T.length < k → qH.l1 K l l k (D.length : Int) = .ok true := by
  intro k
  induction k with
  | zero => intro D T _ h; omega
  | succ k ih =>
    intro D T h1 hk
    have hlen : D.length + T.length = l.length := by rw [← h1]; simp
    rw [qH.l1, qQ]
    cases T with
    | nil => rw [if_neg (by simp only [List.length_nil] at hlen; omega)]
    | cons t T =>
      simp only [List.length_cons] at hlen hk
      have e3 : qC ((D.length : Int) + 1) = ((D ++ [t]).length : Int) := by rw [qR (by omega) (by omega)]; simp
      rw [if_pos (by omega), zN (by omega), qz, qz]
      simp only [beq_self_eq_true, Bool.and_self, Bool.not_true, cond_false, qU]
      rw [e3]
      exact ih (D ++ [t]) T (by rw [← h1]; simp) (by omega)
theorem same (K : Nat) (l : List Tb) (hl : l.length ≤ 100000) (hK : l.length < K) : qH.m K l l = .ok true := by
  unfold qH.m
  rw [show ((l.length : Int) != (l.length : Int)) = false from by simp, cond_false]
  exact Ql K l hl K [] l rfl hK
end Go.Pn

set_option maxRecDepth 100000
namespace Go.Pn
open Go Go.Sl Go.Pu Go.Mo
def uL (at_ : Nat) (t : Tb) : List UInt8 := ((t.Tag_ ++ xR 4 (xx t.Data_)) ++ xR 4 at_) ++ xR 4 t.Data_.length
def vg (t : Tb) : List UInt8 := t.Data_ ++ List.replicate (yG t.Data_.length - t.Data_.length) 0
theorem yz (t : Tb) : (vg t).length = yG t.Data_.length := by simp [vg]; unfold yG; omega
def xu : Nat → List Tb → List UInt8
  | _, [] => []
  | at_, t :: r => uL at_ t ++ xu (at_ + yG t.Data_.length) r
def xE : List Tb → List UInt8
  | [] => []
  | t :: r => vg t ++ xE r
theorem ja : ∀ l : List Tb, (xE l).length = js l
  | [] => rfl
  | t :: r => by rw [xE, List.length_append, yz, ja r, js]
theorem vo {at_ : Nat} {t : Tb} (h : t.Tag_.length = 4) : (uL at_ t).length = 16 := by simp [uL, zy, h]
theorem z7 : ∀ (at_ : Nat) (l : List Tb), (∀ t ∈ l, t.Tag_.length = 4) → (xu at_ l).length = 16 * l.length
  | _, [], _ => rfl
  | at_, t :: r, h => by
    rw [xu, List.length_append, vo (h t (by simp)), z7 _ r (fun u hu => h u (by simp [hu])), List.length_cons]; omega
def yT (kind : Nat) (l : List Tb) : List UInt8 := xI kind l.length ++ xu (12 + 16 * l.length) l ++ xE l
theorem jg : ∀ (p : Option (List UInt8)) (l : List Tb), ui p l = true → ∀ t ∈ l, vr t.Tag_ = true ∧ t.Data_.length ≤ 16777216
  | _, [], _ => by simp
  | p, t :: r, h => by
    rw [ui, Bool.and_eq_true] at h
    intro u hu
    rcases List.mem_cons.1 hu with rfl | hu
    · have h2 := h.1
      unfold Zl at h2
      simp only [Bool.and_eq_true, decide_eq_true_eq] at h2
      exact ⟨h2.1, h2.2.2⟩
    · exact jg _ r h.2 u hu
theorem yW (a b : List UInt8) : a.map xP ++ b.map xP = (a ++ b).map xP := by rw [List.map_append]
theorem Zp (n : Nat) (h : n ≤ 1000) : uI ([0] : List UInt8) (n : Int) = .ok (List.replicate n 0) := by
  unfold uI
  rw [show (decide (0 ≤ (n : Int)) && decide ((n : Int) ≤ 9223372036854775807) && decide (([0] : List UInt8).length * (n : Int).toNat ≤ 140737488355328)) = true from by
    simp only [Bool.and_eq_true, decide_eq_true_eq, List.length_singleton, Int.toNat_natCast]; omega, qz, Int.toNat_natCast]
  congr 1
  induction n with
  | zero => rfl
  | succ n ih => rw [List.replicate_succ, List.flatten_cons, ih (by omega)]; rfl
theorem jR (K kind : Nat) (l : List Tb) (hk : kind < 4294967296) (hl : 1 ≤ l.length ∧ l.length ≤ 1000) (htag : ∀ t ∈ l, t.Tag_.length = 4) (hd : ∀ t ∈ l, t.Data_.length < K) (hK : 1000 < K) :
    ∀ (k : Nat) (D T : List Tb) (R B : List UInt8), D ++ T = l → T.length < k → B.length + js T < 1073741824 → R.length = 16 * D.length →
    qB.l2 K (kind : Int) l ((12 + 16 * l.length : Nat) : Int) k (R.map xP) (B.map xP) (D.length : Int) =
      .ok (xI kind l.length ++ (R ++ xu (12 + 16 * l.length + B.length) T) ++ (B ++ xE T), 0) := by
  intro k
  induction k with
  | zero => intro D T _ _ _ h; omega
  | succ k ih =>
    intro D T R B h1 hk2 hB hR
    have hlen : D.length + T.length = l.length := by rw [← h1]; simp
    rw [qB.l2, qQ]
    cases T with
    | nil =>
      rw [if_neg (by simp only [List.length_nil] at hlen; omega)]
      simp only [List.length_nil] at hlen
      unfold qB.j3 q7.m
      rw [uE K kind l.length hk hl.1 hl.2 hK, qO.bind_ok, qU, qO.bind_ok, xB, zv (by rw [z3]; omega), qz, qU, qO.bind_ok, xB,
        zv (by rw [List.length_append, z3]; omega), qz, qU, xu, xE, List.append_nil, List.append_nil]
    | cons t T =>
      simp only [List.length_cons] at hlen hk2
      rw [js] at hB
      have e1 : rd l (D.length : Int) = t := by rw [← h1]; exact yX D t T rfl
      have htl := htag t (by rw [← h1]; simp)
      have hdl := hd t (by rw [← h1]; simp)
      have hup : t.Data_.length ≤ yG t.Data_.length ∧ yG t.Data_.length ≤ t.Data_.length + 3 := by unfold yG; omega
      have hw := vy t.Data_
      have e3 : qC ((D.length : Int) + 1) = ((D ++ [t]).length : Int) := by rw [qR (by omega) (by omega)]; simp
      have eat : qC (((12 + 16 * l.length : Nat) : Int) + (((B.map xP).length : Nat) : Int)) = ((12 + 16 * l.length + B.length : Nat) : Int) := by rw [List.length_map, qR (by omega) (by omega)]; omega
      have epd : qC (((yG t.Data_.length : Nat) : Int) - ((t.Data_.length : Nat) : Int)) = ((yG t.Data_.length - t.Data_.length : Nat) : Int) := by rw [qR (by omega) (by omega)]; omega
      have lw : ∀ A, (xR 4 A).length = 4 := zy 4
      rw [if_pos (by omega), zN (by omega), qz, e1, yN K _ (by omega) hdl, qO.bind_ok, jl (x := ((xx t.Data_ : Nat) : Int)) (by omega) (by omega), v4 K _ hw (by omega), qO.bind_ok, zv (by rw [htl, lw]; omega), qz]
      unfold zp.m qW.m strings_Repeat.m
      rw [qU, qO.bind_ok, eat, v4 K _ (by omega) (by omega), qO.bind_ok, zv (by simp only [List.length_append, htl, lw]; omega), qz, v4 K _ (by omega) (by omega), qO.bind_ok, zv (by simp only [List.length_append, htl, lw]; omega), qz,
        y7 (by simp only [List.length_append, List.length_map, htl, lw]; omega), qz, qU, qU, qO.bind_ok]
      dsimp only
      rw [jE K _ (by omega), qO.bind_ok, epd, Zp _ (by omega), qO.bind_ok, qO.bind_ok, zv (by rw [List.length_replicate]; omega), qz, y7 (by simp only [List.length_append, List.length_map, List.length_replicate]; omega), qz, qU, qU, qO.bind_ok]
      dsimp only
      rw [e3, yW, yW, show ((t.Tag_ ++ xR 4 (xx t.Data_)) ++ xR 4 (12 + 16 * l.length + B.length)) ++ xR 4 t.Data_.length = uL (12 + 16 * l.length + B.length) t from rfl,
        show t.Data_ ++ List.replicate (yG t.Data_.length - t.Data_.length) 0 = vg t from rfl, ih (D ++ [t]) T _ _ (by rw [← h1]; simp) (by omega) (by rw [List.length_append, yz]; omega) (by rw [List.length_append, vo htl, hR, List.length_append, List.length_singleton]; omega),
        xu, xE, List.length_append, yz, List.append_assoc R, List.append_assoc B, Nat.add_assoc (12 + 16 * l.length)]
theorem Q1 (kind : Nat) : (((kind : Int) == (65536 : Int)) || ((kind : Int) == (1330926671 : Int))) = decide (kind = 65536 ∨ kind = 1330926671) := by
  rw [Bool.eq_iff_iff]; simp only [Bool.or_eq_true, beq_iff_eq, decide_eq_true_eq]; omega
def jT (kind : Nat) (l : List Tb) : List UInt8 × Int :=
  if (kind = 65536 ∨ kind = 1330926671) ∧ ui none l = true ∧ 0 < l.length ∧ l.length ≤ 1000 then (yT kind l, 0) else ([], 1)
theorem uk (K kind : Nat) (l : List Tb) (hk : kind < 4294967296) (hl : l.length ≤ 100000) (hb : ∀ t ∈ l, t.Tag_.length ≤ 9223372036854775807 ∧ t.Tag_.length < K) (hs : js l < 1073741824) (hd : ∀ t ∈ l, t.Data_.length < K) (hK : 100000 < K) :
    qB.m K (kind : Int) l = .ok (jT kind l) := by
  unfold qB.m xc.m jT
  rw [Q1, qU, qO.bind_ok]
  have dl : decide ((l.length : Int) > 1000) = !decide (l.length ≤ 1000) := by rw [Bool.eq_iff_iff]; simp only [Bool.not_eq_true', decide_eq_true_eq, decide_eq_false_iff_not]; omega
  rw [dl]
  by_cases h1 : kind = 65536 ∨ kind = 1330926671
  · rw [decide_eq_true h1, Bool.not_true, Bool.false_or, j0, qQ]
    by_cases h2 : l.length ≤ 1000
    · rw [if_pos h2, uD K l hl hb hs (by omega), qO.bind_ok, decide_eq_true h2, Bool.and_true]
      unfold qB.j1
      cases h3 : ui none l with
      | false => rw [if_neg (by simp)]; rfl
      | true =>
        by_cases h4 : 0 < l.length
        · rw [decide_eq_true h4, if_pos ⟨h1, rfl, h4, h2⟩, Bool.true_and, Bool.not_true, cond_false, qU]
          have ef : qC ((12 : Int) + qC ((16 : Int) * (l.length : Int))) = ((12 + 16 * l.length : Nat) : Int) := by rw [qR (x := 16 * _) (by omega) (by omega), qR (by omega) (by omega)]; omega
          have ht := jg none l h3
          have := jR K kind l hk ⟨h4, h2⟩ (fun t h => vt (ht t h).1) hd (by omega) K [] l [] [] rfl (by omega) (by simpa using hs) rfl
          rw [ef]
          exact this
        · rw [decide_eq_false h4, if_neg (fun h => h4 h.2.2.1)]; rfl
    · rw [if_neg h2, if_neg (fun h => h2 h.2.2.2)]; rfl
  · rw [decide_eq_false h1, if_neg (fun h => h1 h.1)]; rfl
end Go.Pn

set_option maxRecDepth 100000
namespace Go.Pn
open Go Go.Sl Go.Pu Go.Mo
abbrev Sp := qT
structure ZX (S : List Sp) : Prop where
  each : ∀ x ∈ S, 0 ≤ x.Lo_ ∧ x.Lo_ < x.Hi_ ∧ x.Hi_ < 2305843009213693952
  srt : S.Pairwise fun x y => x.Hi_ ≤ y.Lo_
def Zh (S : List Sp) (lo hi : Int) : List Sp := S.takeWhile (fun x => decide (x.Hi_ ≤ lo)) ++ ⟨lo, hi⟩ :: S.dropWhile (fun x => decide (x.Hi_ ≤ lo))
def QB (S : List Sp) (lo hi : Int) : Bool := S.any fun x => decide (lo < x.Hi_) && decide (x.Lo_ < hi)
abbrev It := qa
end Go.Pn

set_option maxRecDepth 100000
namespace Go.Pn
open Go Go.Sl Go.Pu Go.Mo
def Zs (s : List UInt8) : Bool := s.all fun x => x == 0
def Zq (s : List UInt8) (S : List Sp) (row : List UInt8) : Except Int (Tb × List Sp) :=
  if yg row 8 4 % 4 ≠ 0 ∨ yg row 12 4 > 16777216 then .error 3 else
  if ¬ yg row 8 4 + yG (yg row 12 4) ≤ s.length then .error 2 else
  if Zs ((s.drop (yg row 8 4 + yg row 12 4)).take (yG (yg row 12 4) - yg row 12 4)) = false then .error 3 else
  if 0 < yg row 12 4 ∧ QB S (yg row 8 4 : Nat) ((yg row 8 4 + yG (yg row 12 4) : Nat) : Int) = true then .error 5 else
  if xx ((s.drop (yg row 8 4)).take (yg row 12 4)) ≠ yg row 4 4 then .error 4 else
  .ok (⟨row.take 4, (s.drop (yg row 8 4)).take (yg row 12 4)⟩, if 0 < yg row 12 4 then Zh S (yg row 8 4 : Nat) ((yg row 8 4 + yG (yg row 12 4) : Nat) : Int) else S)
def u2 (s : List UInt8) (i : Nat) : List UInt8 := (s.drop (12 + 16 * i)).take 16
def uF (s : List UInt8) (kind : Nat) : Nat → Nat → List Sp → List Tb → Nat → List UInt8 → Int × List Tb × Int
  | 0, _, _, out, all, _ => if all ≥ 1073741824 then (0, [], 3) else ((kind : Int), out, 0)
  | j + 1, i, S, out, all, last =>
    if (vr ((u2 s i).take 4) && Op.bytesLess last ((u2 s i).take 4)) = false then (0, [], 3) else
    match Zq s S (u2 s i) with
    | .error e => (0, [], e)
    | .ok (t, S') => uF s kind j (i + 1) S' (out ++ [t]) (all + yG t.Data_.length) t.Tag_
def ZA (s : List UInt8) : Int × List Tb × Int :=
  if s.length < 12 then (0, [], 2) else
  if ¬ ((yg s 0 4 = 65536 ∨ yg s 0 4 = 1330926671) ∧ 1 ≤ yg s 4 2 ∧ yg s 4 2 ≤ 1000 ∧ s.take 12 = xI (yg s 0 4) (yg s 4 2)) then (0, [], 3) else
  if s.length < 12 + 16 * yg s 4 2 then (0, [], 2) else
  uF s (yg s 0 4) (yg s 4 2) 0 [⟨0, ((12 + 16 * yg s 4 2 : Nat) : Int)⟩] [] 0 []
end Go.Pn

set_option maxRecDepth 100000
namespace Go.Pn
open Go Go.Sl Go.Pu Go.Mo
theorem uz (m : Nat) : qG.m (m + 300) = .ok true := by kernel_rfl
theorem vJ (K : Nat) (hK : 300 ≤ K) : qG.m K = .ok true := by
  obtain ⟨m, rfl⟩ : ∃ m, K = m + 300 := ⟨K - 300, by omega⟩
  exact uz m
structure Zb (K : Nat) (l : List Tb) : Prop where
  len : l.length ≤ 1001
  tag : ∀ t ∈ l, t.Tag_.length ≤ 9223372036854775807 ∧ t.Tag_.length < K
  dat : ∀ t ∈ l, t.Data_.length ≤ 5000
  sz : js l ≤ 108003
theorem ZJ {K : Nat} {l : List Tb} (hK : 9223372036854775807 < K) (hb : ∀ t ∈ l, t.Tag_.length ≤ 9223372036854775807) (h : l.length ≤ 1001 ∧ vv l ≤ 105000 ∧ js l ≤ 108003 ∧ ∀ t ∈ l, t.Data_.length ≤ 5000) : Zb K l :=
  ⟨h.1, fun t ht => ⟨hb t ht, by have := hb t ht; omega⟩, h.2.2.2, h.2.2.1⟩
theorem Zb.prog {K : Nat} {l : List Tb} (h : Zb K l) (kind : Nat) (hk : kind < 4294967296) (hK : 2000000 < K) : qB.m K (kind : Int) l = .ok (jT kind l) :=
  uk K kind l hk (by have := h.len; omega) h.tag (by have := h.sz; omega) (fun t ht => by have := h.dat t ht; omega) (by omega)
theorem QP {a : Int} (h : (Lit.int .u32 a).wf = true) : ∃ n : Nat, a = (n : Int) ∧ n < 4294967296 := by
  have h2 : (0 : Int) ≤ a ∧ a < 4294967296 := by
    simp [Lit.wf, IntKind.min, IntKind.max, IntKind.signed, IntKind.bits] at h
    omega
  exact ⟨a.toNat, by omega, by omega⟩
end Go.Pn

set_option maxRecDepth 100000
namespace Go.Pn
open Go Go.Sl Go.Pu Go.Mo
theorem uS {α : Type} (a b : List α) {n : Nat} (h : n = a.length) : (a ++ b).take n = a := by subst h; exact List.take_left
structure Good (s : List UInt8) (n i a : Nat) (t : Tb) : Prop where
  row : u2 s i = uL a t
  four : a % 4 = 0
  lo : 12 + 16 * n ≤ a
  hi : a + yG t.Data_.length ≤ s.length
  pad : (s.drop a).take (yG t.Data_.length) = vg t
  tag : vr t.Tag_ = true
  dat : t.Data_.length ≤ 16777216
def Zy (D : List Tb) : List UInt8 := (vi D).getD []
def ZW (n : Nat) (l : List Tb) (pl : Nat → Nat) (b : Nat) (S : List Sp) : Prop :=
  ∀ x ∈ S, x = ⟨0, ((12 + 16 * n : Nat) : Int)⟩ ∨ ∃ i t, i < b ∧ l[i]? = some t ∧ x = ⟨(pl i : Nat), ((pl i + yG t.Data_.length : Nat) : Int)⟩
structure Zt (s : List UInt8) (l : List Tb) (pl : Nat → Nat) (b : Nat) : Prop where
  good : ∀ i t, i < b → l[i]? = some t → Good s l.length i (pl i) t
  apart : ∀ i j t u, i < j → j < l.length → l[i]? = some t → l[j]? = some u → pl i + yG t.Data_.length ≤ pl j ∨ pl j + yG u.Data_.length ≤ pl i
  ok : ui none l = true
theorem ue {kind : Nat} {l : List Tb} (h : ∀ t ∈ l, t.Tag_.length = 4) : (yT kind l).length = 12 + 16 * l.length + js l := by
  unfold yT; rw [List.length_append, List.length_append, z3, z7 _ _ h, ja]
end Go.Pn

set_option maxRecDepth 100000
namespace Go.Pn
open Go Go.Sl Go.Pu Go.Mo
def vq : List Tb → Nat
  | [] => 0
  | t :: r => xx t.Data_ + vq r
theorem uV (i : Nat) (h : i % 4 = 0) (t : Tb) : xm i (vg t) = xm 0 t.Data_ := by
  unfold vg
  rw [jm, jK, Nat.add_zero]
  exact uU i 0 (by omega) _
theorem jJ : ∀ (l : List Tb) (i : Nat), i % 4 = 0 → xm i (xE l) % 4294967296 = vq l % 4294967296
  | [], i, _ => by simp [xE, vq, xm]
  | t :: l, i, h => by
    have hp := yz t
    have ih := jJ l (i + (vg t).length) (by rw [hp]; unfold yG; omega)
    rw [xE, jm, uV i h, vq]
    unfold xx
    omega
theorem Qn (K : Nat) (l : List Tb) (x : List UInt8) (hl : l.length ≤ 100000) (hd : ∀ t ∈ l, t.Data_.length < K ∧ t.Data_.length < 140737488355328) (hK : 4 < K) : ∀ (k : Nat) (D T : List Tb) (n : Nat), D ++ T = l → T.length < k → n < 4294967296 →
    qd.l1 K l x k (n : Int) (D.length : Int) = qd.j2 K x (((n + vq T) % 4294967296 : Nat) : Int) := by
  intro k
  induction k with
  | zero => intro D T n _ h; omega
  | succ k ih =>
    intro D T n h1 hk hn
    have hlen : D.length + T.length = l.length := by rw [← h1]; simp
    rw [qd.l1, qQ]
    cases T with
    | nil => rw [if_neg (by simp only [List.length_nil] at hlen; omega), vq, Nat.add_zero, Nat.mod_eq_of_lt hn]
    | cons t T =>
      simp only [List.length_cons] at hlen hk
      have e1 : rd l (D.length : Int) = t := by rw [← h1]; exact yX D t T rfl
      have e3 : qC ((D.length : Int) + 1) = ((D ++ [t]).length : Int) := by rw [qR (by omega) (by omega)]; simp
      have ht := hd t (by rw [← h1]; simp)
      rw [if_pos (by omega), zN (by omega), qz, e1, uH K _ ht.2 ht.1 hK, qO.bind_ok, v8, qU, qU, e3,
        show ((n : Int) + ((xx t.Data_ : Nat) : Int)) % 4294967296 = (((n + xx t.Data_) % 4294967296 : Nat) : Int) by omega, ih (D ++ [t]) T _ (by rw [← h1]; simp) (by omega) (Nat.mod_lt _ (by decide)), vq]
      congr 2
      omega
theorem vN (K : Nat) (hK : 9223372036854775807 < K) (kind : Nat) (hk : kind < 4294967296) (l : List Tb) (hb : ∀ t ∈ l, t.Tag_.length ≤ 9223372036854775807) : qd.m K (kind : Int) l = .ok true := by
  unfold qd.m
  obtain ⟨b, hs, h⟩ := Q4 K l (by omega)
  rw [hs, qO.bind_ok]
  cases b with
  | false => rw [Bool.not_false, cond_true, vJ K (by omega)]; rfl
  | true =>
    have hf := ZJ hK hb (h rfl)
    have hlen := hf.len
    have hsz := hf.sz
    rw [Bool.not_true, cond_false, hf.prog kind hk (by omega), qO.bind_ok]
    unfold jT
    by_cases hg : (kind = 65536 ∨ kind = 1330926671) ∧ ui none l = true ∧ 0 < l.length ∧ l.length ≤ 1000
    · rw [if_pos hg]
      dsimp only
      have htg := jg none l hg.2.1
      have h4 : ∀ u ∈ l, u.Tag_.length = 4 := fun u hu => vt (htg u hu).1
      have hfl := ue (kind := kind) (l := l) h4
      have en : qC ((12 : Int) + qC ((16 : Int) * (l.length : Int))) = ((12 + 16 * l.length : Nat) : Int) := by rw [qR (x := 16 * _) (by omega) (by omega), qR (by omega) (by omega)]; omega
      have hcut : (yT kind l).take (12 + 16 * l.length) = xI kind l.length ++ xu (12 + 16 * l.length) l := by
        unfold yT; exact uS _ _ (by rw [List.length_append, z3, z7 _ _ h4])
      rw [show ((0 : Int) != 0) = false from rfl, cond_false, en, qU, qQ, if_neg (by omega), uR (by omega) (by omega) (by omega), qz, uQ, hcut, yN K _ (by rw [List.length_append, z3, z7 _ _ h4]; omega) (by rw [List.length_append, z3, z7 _ _ h4]; omega), qO.bind_ok]
      have := Qn K l (yT kind l) (by omega) (fun t ht => by have := hf.dat t ht; omega) (by omega) K [] l (xx (xI kind l.length ++ xu (12 + 16 * l.length) l)) rfl (by omega) (vy _)
      rw [show (([] : List Tb).length : Int) = 0 from rfl] at this
      rw [this]
      unfold qd.j2 qd.j3
      have heq : xx (yT kind l) = (xx (xI kind l.length ++ xu (12 + 16 * l.length) l) + vq l) % 4294967296 := by
        have hbd := jJ l (0 + (xI kind l.length ++ xu (12 + 16 * l.length) l).length) (by rw [List.length_append, z3, z7 _ _ h4]; omega)
        unfold xx yT
        rw [jm]
        omega
      rw [yN K _ (by omega) (by omega), qO.bind_ok, heq, beq_self_eq_true, cond_true, vJ K (by omega)]; rfl
    · rw [if_neg hg]
      dsimp only
      rw [show ((1 : Int) != 0) = true from rfl, cond_true, vJ K (by omega)]; rfl
theorem jq (kind : Int) (l : List Tb) (hk : (Lit.int .u32 kind).wf = true) (hl : ∀ t ∈ l, t.Tag_.length ≤ maxLen ∧ t.Data_.length ≤ maxLen) (_ : l.length * 32 ≤ 140737488351232) : qd.m 10000000000000000000 kind l = .ok true := by
  obtain ⟨n, rfl, hn⟩ := QP hk
  exact vN _ (by decide) n hn l (fun t ht => by have := (hl t ht).1; simpa [maxLen] using this)
end Go.Pn

