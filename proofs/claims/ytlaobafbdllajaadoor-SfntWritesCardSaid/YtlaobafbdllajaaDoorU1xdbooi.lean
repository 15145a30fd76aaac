/- Plain facts on the models: what they compute, and what holds of them; conditions: what each theorem states. -/
import Derived.Test.YtlaobafbdllajaaDoorMhnoep
set_option linter.unusedVariables false
set_option linter.unusedSimpArgs false
namespace Go.Pu
open Go Go.Sl
theorem qP {x : Int} (h0 : -9223372036854775808 ≤ x) (h1 : x < 9223372036854775808) : qB x = x := by
  show (if (true && decide (x % 18446744073709551616 ≥ 9223372036854775808)) = true then x % 18446744073709551616 - 18446744073709551616 else x % 18446744073709551616) = x
  split <;> rename_i h <;> simp at h <;> omega
theorem Zq (x : Int) : wr .u64 x = x % 18446744073709551616 := by
  simp [wr, IntKind.wrap, IntKind.bits, IntKind.signed]
theorem Qb (x : Int) : wr .u32 x = x % 4294967296 := by
  simp [wr, IntKind.wrap, IntKind.bits, IntKind.signed]
theorem Zr (x : Int) : wr .u8 x = x % 256 := by
  simp [wr, IntKind.wrap, IntKind.bits, IntKind.signed]
theorem yt {x : Int} (h0 : 0 ≤ x) (h1 : x < 18446744073709551616) : wr .u64 x = x := by rw [Zq]; omega
theorem y5 {x : Int} (h0 : 0 ≤ x) (h1 : x < 4294967296) : wr .u32 x = x := by rw [Qb]; omega
theorem QC {x : Int} (h0 : 0 ≤ x) (h1 : x < 256) : wr .u8 x = x := by rw [Zr]; omega
theorem y4 {x : Int} (h0 : -9223372036854775808 ≤ x) (h1 : x < 9223372036854775808) : wr .i64 x = x := qP h0 h1
theorem jW (n a : Nat) : BitVec.ofInt n (a : Int) = BitVec.ofNat n a := by
  apply BitVec.eq_of_toNat_eq
  simp
theorem uJ {a b : Nat} (ha : a < 9223372036854775808) (hb : b < 9223372036854775808) : jr .i64 a b = ((a &&& b : Nat) : Int) := by
  show IntKind.i64.wrap ((BitVec.ofInt 64 (a : Int) &&& BitVec.ofInt 64 (b : Int)).toNat : Int) = _
  simp only [jW, BitVec.toNat_and, BitVec.toNat_ofNat]
  rw [Nat.mod_eq_of_lt (by omega), Nat.mod_eq_of_lt (by omega)]
  have : a &&& b ≤ a := Nat.and_le_left
  exact qP (by omega) (by omega)
theorem uM {a b : Nat} (ha : a < 9223372036854775808) (hb : b < 9223372036854775808) : y9 .i64 (a : Int) (b : Int) = ((a / b : Nat) : Int) := by
  unfold y9
  have h1 : (a : Int).tdiv (b : Int) = ((a / b : Nat) : Int) := by rw [Int.ofNat_tdiv]
  rw [h1]
  have h2 : a / b ≤ a := Nat.div_le_self _ _
  generalize a / b = q at h2 ⊢
  exact qP (by omega) (by omega)
theorem jC {a b : Nat} : ja (a : Int) (b : Int) = ((a % b : Nat) : Int) := by
  unfold ja
  rw [Int.ofNat_tmod]
theorem yR {k : IntKind} {a n : Nat} (hn : n ≤ k.bits) : xJ k (a : Int) (n : Int) = ((a / 2 ^ n : Nat) : Int) := by
  unfold xJ
  rw [Int.toNat_natCast, Nat.min_eq_left hn, Int.fdiv_eq_ediv_of_nonneg _ (Int.pow_nonneg (by decide))]
  simp
theorem uN {a n : Nat} (hn : n ≤ 32) (h : a * 2 ^ n < 4294967296) : jM .u32 (a : Int) (n : Int) = ((a * 2 ^ n : Nat) : Int) := by
  unfold jM
  rw [Int.toNat_natCast, show min n IntKind.u32.bits = n from Nat.min_eq_left hn]
  have e : (a : Int) * 2 ^ n = ((a * 2 ^ n : Nat) : Int) := by push_cast; rfl
  rw [e]
  exact y5 (by omega) (by omega)
end Go.Pu

namespace Go.Pn
open Go Go.Sl Go.Pu
theorem xG {n k : Nat} (h : n * k ≤ 140737488355328) : room n k = true := decide_eq_true h
theorem zu {n : Nat} (h : n ≤ 9223372036854775807) : xC n = true := decide_eq_true h
theorem j8 {x : Int} (h : 0 ≤ x) : decide (0 ≤ x) = true := decide_eq_true h
section
variable {α : Type}
theorem qT {p : Prop} [Decidable p] (a b : α) : cond (decide p) a b = if p then a else b := by
  by_cases h : p <;> simp [h]
theorem uF {x y : Int} (a b : α) : cond (x != y) a b = if x = y then b else a := by
  by_cases h : x = y
  · rw [if_pos h, bne_eq_false_iff_eq.2 h]; rfl
  · rw [if_neg h, bne_iff_ne.2 h]; rfl
theorem jz (x : Bool) (a b : α) : cond (!x) a b = cond x b a := by cases x <;> rfl
theorem Qg (x y : Bool) (a b : α) : cond (x || y) a b = cond x a (cond y a b) := by cases x <;> rfl
end
theorem zC {i n : Nat} (h : i < n) : inb (i : Int) n = true := by simp only [inb, decide_eq_true_eq]; omega
theorem vP (n : Nat) : wr .u8 (n : Int) = ((n % 256 : Nat) : Int) := by rw [Zr]; rfl
theorem xt (l : List UInt8) : (l.map xK).map jt = l := by
  rw [List.map_map]
  have : (jt ∘ xK) = id := by funext x; simp [jt, xK]
  rw [this, List.map_id]
theorem jX {n : Nat} (h : n < 256) : xK (UInt8.ofNat n) = (n : Int) := by
  unfold xK
  have : (UInt8.ofNat n).toNat = n % 256 := by simp
  rw [this, Nat.mod_eq_of_lt h]
theorem yn {α : Type} [Inhabited α] (A : List α) (x : α) (B : List α) {i : Int} (h : i = (A.length : Int)) : rd (A ++ x :: B) i = x := by
  subst h; simp [rd, List.getD]
theorem u7 {α : Type} (A : List α) (x y : α) (B : List α) {i : Int} (h : i = (A.length : Int)) : (A ++ x :: B).set (Int.toNat i) y = A ++ y :: B := by
  subst h; simp
def QE (s : List UInt8) (i : Nat) : Nat := (s.getD i 0).toNat
theorem Zh {n : Nat} (h : n < 9223372036854775808) : jr .i64 (n : Int) 3 = ((n % 4 : Nat) : Int) := by
  have := uJ (a := n) (b := 3) h (by decide)
  rw [show ((3 : Nat) : Int) = 3 from rfl] at this
  rw [this, show n &&& 3 = n % 4 from Nat.and_two_pow_sub_one_eq_mod n 2]
def QF (w : Nat) : Prop := w = 1 ∨ w = 2 ∨ w = 4 ∨ w = 8
def yx (s : List UInt8) (at_ : Nat) : Nat → Nat
  | 0 => 0
  | w + 1 => yx s at_ w * 256 + QE s (at_ + w)
def QS (s : List UInt8) (w : Nat) : Nat → Nat
  | 0 => 0
  | i + 1 => QS s w i + QE s (w - 1 - i) * 2 ^ (8 * i)
def xR : Nat → Nat → List UInt8
  | 0, _ => []
  | w + 1, A => UInt8.ofNat (A / 256 ^ w % 256) :: xR w A
theorem zH : ∀ w A, (xR w A).length = w
  | 0, _ => rfl
  | w + 1, A => by rw [xR, List.length_cons, zH w A]
def vQ (i : Nat) : List UInt8 → Nat
  | [] => 0
  | x :: r => x.toNat * 256 ^ (3 - i % 4) + vQ (i + 1) r
def y3 (s : List UInt8) : Nat := vQ 0 s % 4294967296
theorem vO (s : List UInt8) : y3 s < 4294967296 := Nat.mod_lt _ (by decide)
end Go.Pn

set_option maxRecDepth 100000
namespace Go.Pn
open Go Go.Sl Go.Pu Go.Mo
theorem vB (K : Nat) (w : Nat) (hw : QF w) : xx.m K (w : Int) = .ok true := by
  rcases hw with rfl | rfl | rfl | rfl <;> rfl
def ZS (s : List UInt8) (at_ w : Nat) : Nat × Int := if at_ + w ≤ s.length then (yx s at_ w, 0) else (0, 2)
theorem uY (K : Nat) (w : Nat) (hw : QF w) : zI.m K (w : Int) = .ok true := by
  rcases hw with rfl | rfl | rfl | rfl <;> rfl
def vX : List UInt8 := [0, 1, 2, 2, 3, 3, 3, 3, 4, 4, 4, 4, 4, 4, 4, 4, 5, 5, 5, 5, 5, 5, 5, 5, 5, 5, 5, 5, 5, 5, 5, 5, 6, 6, 6, 6, 6, 6, 6, 6, 6, 6, 6, 6, 6, 6, 6, 6, 6, 6, 6, 6, 6, 6, 6, 6, 6, 6, 6, 6, 6, 6, 6, 6, 7, 7, 7, 7, 7, 7, 7, 7, 7, 7, 7, 7, 7, 7, 7, 7, 7, 7, 7, 7, 7, 7, 7, 7, 7, 7, 7, 7, 7, 7, 7, 7, 7, 7, 7, 7, 7, 7, 7, 7, 7, 7, 7, 7, 7, 7, 7, 7, 7, 7, 7, 7, 7, 7, 7, 7, 7, 7, 7, 7, 7, 7, 7, 7, 8, 8, 8, 8, 8, 8, 8, 8, 8, 8, 8, 8, 8, 8, 8, 8, 8, 8, 8, 8, 8, 8, 8, 8, 8, 8, 8, 8, 8, 8, 8, 8, 8, 8, 8, 8, 8, 8, 8, 8, 8, 8, 8, 8, 8, 8, 8, 8, 8, 8, 8, 8, 8, 8, 8, 8, 8, 8, 8, 8, 8, 8, 8, 8, 8, 8, 8, 8, 8, 8, 8, 8, 8, 8, 8, 8, 8, 8, 8, 8, 8, 8, 8, 8, 8, 8, 8, 8, 8, 8, 8, 8, 8, 8, 8, 8, 8, 8, 8, 8, 8, 8, 8, 8, 8, 8, 8, 8, 8, 8, 8, 8, 8, 8, 8, 8, 8, 8, 8, 8, 8, 8, 8, 8, 8, 8, 8, 8]
theorem uw : ∀ v : Nat, v < 256 → ∀ m : Nat, m < 9 → ((rd vX (v : Int)).toNat ≤ m ↔ v < 2 ^ m) := by decide +kernel
def jj (x r : Nat) : Prop := ∀ m : Nat, r ≤ m ↔ x < 2 ^ m
theorem vv {x r : Nat} (hx : x < 256) (h : ∀ m, m < 9 → (r ≤ m ↔ x < 2 ^ m)) : jj x r := by
  intro m
  by_cases hm : m < 9
  · exact h m hm
  · have h8 := (h 8 (by omega)).2 (by omega)
    have : 2 ^ 8 ≤ 2 ^ m := Nat.pow_le_pow_right (by decide) (by omega)
    constructor <;> intro _ <;> omega
theorem yH {x r j : Nat} (hx : 2 ^ j ≤ x) (h : jj (x / 2 ^ j) r) : jj x (j + r) := by
  intro m
  by_cases hm : j ≤ m
  · have e : x / 2 ^ j < 2 ^ (m - j) ↔ x < 2 ^ m := by
      rw [Nat.div_lt_iff_lt_mul (Nat.two_pow_pos j), ← Nat.pow_add, show m - j + j = m by omega]
    rw [← e, ← h (m - j)]; omega
  · have : 2 ^ m < 2 ^ j := Nat.pow_lt_pow_right (by decide) (by omega)
    constructor <;> intro _ <;> omega
theorem vx (K x n : Nat) (hx : x < 256) (hn : n ≤ 64) : ∃ r : Nat, jj x r ∧ qp.j3 K (x : Int) (n : Int) = .ok ((n + r : Nat) : Int) := by
  have ht := uw x hx
  have e : wr .u8 (x : Int) = (x : Int) := QC (by omega) (by omega)
  unfold qp.j3
  rw [e, zC (by simpa using hx), qw, qS]
  show ∃ r : Nat, jj x r ∧ qQ.ok (qB ((n : Int) + wr .i64 (((rd vX (x : Int)).toNat : Nat) : Int))) = .ok ((n + r : Nat) : Int)
  generalize (rd vX (x : Int)).toNat = q at ht ⊢
  have hq := (ht 8 (by omega)).2 (by omega)
  have e2 : wr .i64 (q : Int) = (q : Int) := y4 (by omega) (by omega)
  rw [e2, qP (by omega) (by omega)]
  exact ⟨q, vv hx ht, by rw [Int.natCast_add]⟩
theorem Zk (K x : Nat) (hx : x < 18446744073709551616) : ∃ r : Nat, jj x r ∧ qp.m K (x : Int) = .ok (r : Int) := by
  have j2 : ∀ y n : Nat, y < 65536 → n ≤ 48 → ∃ r : Nat, jj y r ∧ qp.j2 K (y : Int) (n : Int) = .ok ((n + r : Nat) : Int) := by
    intro y n hy hn
    unfold qp.j2
    rw [qT]
    by_cases h : y ≥ 256
    · have e : xJ .u64 (y : Int) 8 = ((y / 256 : Nat) : Int) := yR (n := 8) (by decide)
      rw [if_pos (by omega), qS, qS, e, qP (by omega) (by omega), show (n : Int) + 8 = ((n + 8 : Nat) : Int) from by omega]
      obtain ⟨r, hr, h2⟩ := vx K (y / 256) (n + 8) (by omega) (by omega)
      exact ⟨8 + r, yH (j := 8) (by omega) hr, by rw [h2, Nat.add_assoc]⟩
    · rw [if_neg (by omega)]
      exact vx K y n (by omega) (by omega)
  have j1 : ∀ y n : Nat, y < 4294967296 → n ≤ 32 → ∃ r : Nat, jj y r ∧ qp.j1 K (y : Int) (n : Int) = .ok ((n + r : Nat) : Int) := by
    intro y n hy hn
    unfold qp.j1
    rw [qT]
    by_cases h : y ≥ 65536
    · have e : xJ .u64 (y : Int) 16 = ((y / 65536 : Nat) : Int) := yR (n := 16) (by decide)
      rw [if_pos (by omega), qS, qS, e, qP (by omega) (by omega), show (n : Int) + 16 = ((n + 16 : Nat) : Int) from by omega]
      obtain ⟨r, hr, h2⟩ := j2 (y / 65536) (n + 16) (by omega) (by omega)
      exact ⟨16 + r, yH (j := 16) (by omega) hr, by rw [h2, Nat.add_assoc]⟩
    · rw [if_neg (by omega)]
      exact j2 y n (by omega) (by omega)
  unfold qp.m
  rw [qT]
  by_cases h : x ≥ 4294967296
  · have e : xJ .u64 (x : Int) 32 = ((x / 4294967296 : Nat) : Int) := yR (n := 32) (by decide)
    rw [if_pos (by omega), qS, e, show (32 : Int) = ((32 : Nat) : Int) from rfl]
    obtain ⟨r, hr, h2⟩ := j1 (x / 4294967296) 32 (by omega) (by omega)
    exact ⟨32 + r, yH (j := 32) (by omega) hr, h2⟩
  · rw [if_neg (by omega), show (0 : Int) = ((0 : Nat) : Int) from rfl]
    obtain ⟨r, hr, h2⟩ := j1 x 0 (by omega) (by omega)
    rw [Nat.zero_add] at h2
    exact ⟨r, hr, h2⟩
theorem vN (K A w : Nat) (hw : w ≤ 8) (z : List Int) (hz : z.length = w) : ∀ (j k i : Nat), i + j = w → j < k →
    qV.l1 K (A : Int) (w : Int) z k (List.replicate (w - i) 0 ++ (xR i A).map xK) (i : Int) = .ok (xR w A, 0) := by
  intro j
  induction j with
  | zero =>
    intro k i hi hk
    obtain ⟨k, rfl⟩ : ∃ m, k = m + 1 := ⟨k - 1, by omega⟩
    have : i = w := by omega
    subst this
    rw [qV.l1, qT, if_neg (by omega), qS, Nat.sub_self]
    simp only [List.replicate_zero, List.nil_append, xt]
  | succ j ih =>
    intro k i hi hk
    obtain ⟨k, rfl⟩ : ∃ m, k = m + 1 := ⟨k - 1, by omega⟩
    have e1 : qB (qB ((w : Int) - 1) - (i : Int)) = ((w - 1 - i : Nat) : Int) := by rw [qP (x := (w : Int) - 1) (by omega) (by omega), qP (by omega) (by omega)]; omega
    have e2 : qB ((8 : Int) * (i : Int)) = ((8 * i : Nat) : Int) := by rw [qP (by omega) (by omega)]; omega
    have e3 : qB ((i : Int) + 1) = ((i + 1 : Nat) : Int) := by rw [qP (by omega) (by omega)]; omega
    have hl : (List.replicate (w - i) (0 : Int) ++ (xR i A).map xK).length = w := by simp only [List.length_append, List.length_replicate, List.length_map, zH]; omega
    have hset : (List.replicate (w - i) (0 : Int) ++ (xR i A).map xK).set (w - 1 - i) ((A / 256 ^ i % 256 : Nat) : Int) = List.replicate (w - (i + 1)) 0 ++ (xR (i + 1) A).map xK := by
      have e : List.replicate (w - i) (0 : Int) ++ (xR i A).map xK = List.replicate (w - (i + 1)) 0 ++ 0 :: (xR i A).map xK := by
        rw [show w - i = (w - (i + 1)) + 1 by omega, List.replicate_succ']; simp
      have := u7 (List.replicate (w - (i + 1)) (0 : Int)) 0 ((A / 256 ^ i % 256 : Nat) : Int) ((xR i A).map xK) (i := ((w - 1 - i : Nat) : Int)) (by rw [List.length_replicate]; omega)
      rw [e, Int.toNat_natCast] at *
      rw [this, xR, List.map_cons, jX (Nat.mod_lt _ (by decide))]
    rw [qV.l1, qT, if_pos (by omega), e2, j8 (by omega), qw]
    unfold zE.m
    rw [e1, qS, qQ.bind_ok, zC (by rw [hl]; omega), qw, qS, e3, yR (show 8 * i ≤ 64 by omega), vP, show 2 ^ (8 * i) = 256 ^ i from by rw [Nat.pow_mul], Int.toNat_natCast, hset]
    exact ih k (i + 1) (by omega) (by omega)
def x3 (w A : Nat) : List UInt8 × Int := if A < 256 ^ w then (xR w A, 0) else ([], 10)
theorem vM (K A w : Nat) (hw : QF w) (hA : A < 18446744073709551616) (hK : 8 < K) : qV.m K (A : Int) (w : Int) = .ok (x3 w A) := by
  have hw8 : w ≤ 8 := by unfold QF at hw; omega
  obtain ⟨r, hr, h⟩ := Zk K A hA
  unfold qV.m x3
  rw [vB K w hw, qQ.bind_ok, Bool.not_true, cond_false, h, qQ.bind_ok, qT, qP (by omega) (by omega)]
  have hm := hr (8 * w)
  rw [Nat.pow_mul, show (2 : Nat) ^ 8 = 256 from rfl] at hm
  by_cases hf : A < 256 ^ w
  · have := hm.2 hf
    have hl := vN K A w hw8 (List.replicate w 0) (List.length_replicate ..) w K 0 (by omega) (by omega)
    simp only [Nat.sub_zero, xR, List.map_nil, List.append_nil] at hl
    rw [if_pos hf, if_neg (by omega)]
    unfold zO.m
    rw [qQ.bind_ok, j8 (by omega), Bool.true_and, xG (by omega), qw, qS, Int.toNat_natCast]
    exact hl
  · rw [if_neg hf, if_pos (by omega)]
theorem vD (K A w : Nat) (hw : w ≤ 8) (hA : A < 18446744073709551616) : ∀ (j k i : Nat), i + j = w → j < k →
    qh.l1 K (w : Int) true k ((A / 256 ^ i : Nat) : Int) (List.replicate (w - i) 0 ++ (xR i A).map xK) (i : Int) = .ok (x3 w A) := by
  intro j
  induction j with
  | zero =>
    intro k i hi hk
    obtain ⟨k, rfl⟩ : ∃ m, k = m + 1 := ⟨k - 1, by omega⟩
    have : i = w := by omega
    subst this
    rw [qh.l1, qT, if_neg (by omega)]
    unfold qh.j3 x3
    rw [qT]
    by_cases hf : A < 256 ^ i
    · rw [if_pos hf, Nat.div_eq_of_lt hf, if_neg (by omega), qS, Nat.sub_self]
      simp only [List.replicate_zero, List.nil_append, xt]
    · have : 0 < A / 256 ^ i := Nat.div_pos (by omega) (Nat.pow_pos (by decide))
      rw [if_neg hf, if_pos (by omega)]
  | succ j ih =>
    intro k i hi hk
    obtain ⟨k, rfl⟩ : ∃ m, k = m + 1 := ⟨k - 1, by omega⟩
    have hle : A / 256 ^ i ≤ A := Nat.div_le_self _ _
    have e1 : qB (qB ((w : Int) - 1) - (i : Int)) = ((w - 1 - i : Nat) : Int) := by rw [qP (x := (w : Int) - 1) (by omega) (by omega), qP (by omega) (by omega)]; omega
    have e3 : qB ((i : Int) + 1) = ((i + 1 : Nat) : Int) := by rw [qP (by omega) (by omega)]; omega
    have hl : (List.replicate (w - i) (0 : Int) ++ (xR i A).map xK).length = w := by simp only [List.length_append, List.length_replicate, List.length_map, zH]; omega
    have hset : (List.replicate (w - i) (0 : Int) ++ (xR i A).map xK).set (w - 1 - i) ((A / 256 ^ i % 256 : Nat) : Int) = List.replicate (w - (i + 1)) 0 ++ (xR (i + 1) A).map xK := by
      have e : List.replicate (w - i) (0 : Int) ++ (xR i A).map xK = List.replicate (w - (i + 1)) 0 ++ 0 :: (xR i A).map xK := by
        rw [show w - i = (w - (i + 1)) + 1 by omega, List.replicate_succ']; simp
      have := u7 (List.replicate (w - (i + 1)) (0 : Int)) 0 ((A / 256 ^ i % 256 : Nat) : Int) ((xR i A).map xK) (i := ((w - 1 - i : Nat) : Int)) (by rw [List.length_replicate]; omega)
      rw [e, Int.toNat_natCast] at *
      rw [this, xR, List.map_cons, jX (Nat.mod_lt _ (by decide))]
    have e5 : ja ((A / 256 ^ i : Nat) : Int) 256 = ((A / 256 ^ i % 256 : Nat) : Int) := jC (b := 256)
    have e6 : y9 .u64 ((A / 256 ^ i : Nat) : Int) 256 = ((A / 256 ^ (i + 1) : Nat) : Int) := by
      unfold y9
      have e : Int.tdiv ((A / 256 ^ i : Nat) : Int) 256 = ((A / 256 ^ i / 256 : Nat) : Int) := (Int.ofNat_tdiv (A / 256 ^ i) 256).symm
      rw [e, Nat.div_div_eq_div_mul, show 256 ^ i * 256 = 256 ^ (i + 1) from (Nat.pow_succ ..).symm]
      have := Nat.div_le_self A (256 ^ (i + 1))
      generalize A / 256 ^ (i + 1) = z at this
      exact yt (by omega) (by omega)
    rw [qh.l1, qT, if_pos (by omega), cond_true, qS]
    unfold qh.j2
    rw [e1, zC (by rw [hl]; omega), qw, qS, qS, qS, e3, e5, e6, vP, Nat.mod_mod, Int.toNat_natCast, hset]
    exact ih k (i + 1) (by omega) (by omega)
theorem vC (K A w : Nat) (hw : QF w) (hA : A < 18446744073709551616) (hK : 8 < K) : qh.m K (A : Int) (w : Int) true = .ok (x3 w A) := by
  have hw8 : w ≤ 8 := by unfold QF at hw; omega
  have hl := vD K A w hw8 hA w K 0 (by omega) (by omega)
  simp only [Nat.sub_zero, xR, List.map_nil, List.append_nil, Nat.pow_zero, Nat.div_one] at hl
  unfold qh.m
  rw [uY K w hw, qQ.bind_ok, Bool.not_true, cond_false, j8 (by omega), Bool.true_and, xG (by omega), qw, qS, Int.toNat_natCast]
  exact hl
theorem vd (K : Nat) (s : List UInt8) (hs : s.length < 140737488355328) : ∀ (k : Nat) (D T : List UInt8) (n : Nat), D ++ T = s → T.length < k → n < 4294967296 →
    zr.l1 K s k (n : Int) (D.length : Int) = .ok (((n + vQ D.length T) % 4294967296 : Nat) : Int) := by
  intro k
  induction k with
  | zero => intro D T n _ h; omega
  | succ k ih =>
    intro D T n h1 hk hn
    have hlen : D.length + T.length = s.length := by rw [← h1]; simp
    rw [zr.l1, qT]
    cases T with
    | nil =>
      rw [if_neg (by simp only [List.length_nil] at hlen; omega), vQ, Nat.add_zero, Nat.mod_eq_of_lt hn]
    | cons x T =>
      simp only [List.length_cons] at hlen hk
      have e1 : rd s (D.length : Int) = x := by rw [← h1]; exact yn D x T rfl
      have e3 : qB ((D.length : Int) + 1) = ((D ++ [x]).length : Int) := by rw [qP (by omega) (by omega)]; simp
      have hx := x.toNat_lt
      have hd : D.length % 4 < 4 := Nat.mod_lt _ (by decide)
      have e4 : qB ((24 : Int) - qB (8 * ((D.length % 4 : Nat) : Int))) = ((24 - 8 * (D.length % 4) : Nat) : Int) := by
        rw [qP (x := 8 * _) (by omega) (by omega), qP (by omega) (by omega)]; omega
      have hpow : 2 ^ (24 - 8 * (D.length % 4)) = 256 ^ (3 - D.length % 4) := by rw [show 24 - 8 * (D.length % 4) = 8 * (3 - D.length % 4) by omega, Nat.pow_mul]
      have hple : 256 ^ (3 - D.length % 4) ≤ 256 ^ 3 := Nat.pow_le_pow_right (by decide) (by omega)
      have hm : x.toNat * 256 ^ (3 - D.length % 4) ≤ 255 * 256 ^ 3 := Nat.mul_le_mul (by omega) hple
      rw [if_pos (by omega), zC (by omega), qw, e1, Zh (by omega), e4, j8 (by omega), qw, qS, y5 (x := ((x.toNat : Nat) : Int)) (by omega) (by omega), uN (by omega) (by rw [hpow]; omega), hpow, Qb, e3]
      have e5 : ((n : Int) + ((x.toNat * 256 ^ (3 - D.length % 4) : Nat) : Int)) % 4294967296 = (((n + x.toNat * 256 ^ (3 - D.length % 4)) % 4294967296 : Nat) : Int) := by omega
      rw [e5, ih (D ++ [x]) T _ (by rw [← h1]; simp) (by omega) (Nat.mod_lt _ (by decide)), vQ, List.length_append, List.length_singleton]
      congr 2
      omega
theorem uy (K : Nat) (s : List UInt8) (hs : s.length < 140737488355328) (hK : s.length < K) : zr.m K s = .ok ((y3 s : Nat) : Int) := by
  have := vd K s hs K [] s 0 rfl hK (by decide)
  rw [Nat.zero_add] at this
  exact this
theorem vF (K : Nat) (g : Int → Int → qQ Int) (n i : Nat) (hn : n < 4294967296) (hi : i < 140737488355328) : ∀ (j k q b : Nat), q + j = 3 → j < k → b < 256 ^ (q + 1) →
    qs.l2 K g (n : Int) (i : Int) k (b : Int) (q : Int) = g (((n + b * 256 ^ j) % 4294967296 : Nat) : Int) ((i + 1 : Nat) : Int) := by
  intro j
  induction j with
  | zero =>
    intro k q b hq hk hb
    obtain ⟨k, rfl⟩ : ∃ m, k = m + 1 := ⟨k - 1, by omega⟩
    have e3 : qB ((i : Int) + 1) = ((i + 1 : Nat) : Int) := by rw [qP (by omega) (by omega)]; omega
    rw [qs.l2, qT, if_neg (by omega), qS, qS, e3, Qb, Nat.pow_zero, Nat.mul_one]
    congr 1
  | succ j ih =>
    intro k q b hq hk hb
    obtain ⟨k, rfl⟩ : ∃ m, k = m + 1 := ⟨k - 1, by omega⟩
    have e3 : qB ((q : Int) + 1) = ((q + 1 : Nat) : Int) := by rw [qP (by omega) (by omega)]; omega
    have hp : 256 ^ (q + 1) ≤ 256 ^ 3 := Nat.pow_le_pow_right (by decide) (by omega)
    have hb2 : b * 256 < 256 ^ (q + 1 + 1) := by rw [Nat.pow_succ]; omega
    have e4 : wr .u32 ((b : Int) * 256) = ((b * 256 : Nat) : Int) := by rw [y5 (by omega) (by omega)]; omega
    rw [qs.l2, qT, if_pos (by omega), qS, qS, e3, e4, ih k (q + 1) (b * 256) (by omega) (by omega) hb2, Nat.mul_assoc, Nat.pow_succ, Nat.mul_comm 256]
theorem vE (K : Nat) (hK : 4 < K) (s : List UInt8) (hs : s.length < 140737488355328) : ∀ (k : Nat) (D T : List UInt8) (n : Nat), D ++ T = s → T.length < k → n < 4294967296 →
    qs.l1 K s k (n : Int) (D.length : Int) = .ok (((n + vQ D.length T) % 4294967296 : Nat) : Int) := by
  intro k
  induction k with
  | zero => intro D T n _ h; omega
  | succ k ih =>
    intro D T n h1 hk hn
    have hlen : D.length + T.length = s.length := by rw [← h1]; simp
    rw [qs.l1, qT]
    cases T with
    | nil =>
      rw [if_neg (by simp only [List.length_nil] at hlen; omega), vQ, Nat.add_zero, Nat.mod_eq_of_lt hn]
    | cons x T =>
      simp only [List.length_cons] at hlen hk
      have e1 : rd s (D.length : Int) = x := by rw [← h1]; exact yn D x T rfl
      have hx := x.toNat_lt
      have hd : D.length % 4 < 4 := Nat.mod_lt _ (by decide)
      have e2 : ja (D.length : Int) 4 = ((D.length % 4 : Nat) : Int) := jC (b := 4)
      have hb : x.toNat < 256 ^ (D.length % 4 + 1) := by
        have : 256 ^ 1 ≤ 256 ^ (D.length % 4 + 1) := Nat.pow_le_pow_right (by decide) (by omega)
        omega
      rw [if_pos (by omega), zC (by omega), qw, e1, qS, qS, e2, y5 (x := ((x.toNat : Nat) : Int)) (by omega) (by omega), vF K _ n D.length hn (by omega) (3 - D.length % 4) K (D.length % 4) x.toNat (by omega) (by omega) hb]
      rw [show ((D.length + 1 : Nat) : Int) = ((D ++ [x]).length : Int) from by simp, ih (D ++ [x]) T _ (by rw [← h1]; simp) (by omega) (Nat.mod_lt _ (by decide)), vQ, List.length_append, List.length_singleton]
      congr 2
      omega
theorem uZ (K : Nat) (s : List UInt8) (hs : s.length < 140737488355328) (hK : s.length < K) (hK2 : 4 < K) : qs.m K s = .ok ((y3 s : Nat) : Int) := by
  have := vE K hK2 s hs K [] s 0 rfl hK (by decide)
  rw [Nat.zero_add] at this
  exact this
end Go.Pn

set_option maxRecDepth 100000
namespace Go.Pn
open Go Go.Sl Go.Pu Go.Mo
abbrev Tb := qb
def Qf (x : UInt8) : Bool := decide (32 ≤ x.toNat ∧ x.toNat ≤ 126)
def vh (s : List UInt8) : Bool := s.all Qf && decide (s.length = 4)
theorem vJ {s : List UInt8} (h : vh s = true) : s.length = 4 := by
  unfold vh at h; rw [Bool.and_eq_true] at h; exact of_decide_eq_true h.2
theorem vw (n : Nat) : ((n : Int) == (4 : Int)) = decide (n = 4) := by
  rw [Bool.eq_iff_iff]; simp only [beq_iff_eq, decide_eq_true_eq]; omega
theorem v2 (K : Nat) (s : List UInt8) (hs : s.length ≤ 9223372036854775807) : ∀ (k : Nat) (D T : List UInt8), D ++ T = s → T.length < k →
    zh.l1 K s (s.map xK) k (D.length : Int) = .ok (T.all Qf && decide (s.length = 4)) := by
  intro k
  induction k with
  | zero => intro D T _ h; omega
  | succ k ih =>
    intro D T h1 hk
    have hlen : D.length + T.length = s.length := by rw [← h1]; simp
    rw [zh.l1, qT, List.length_map]
    cases T with
    | nil =>
      rw [if_neg (by simp only [List.length_nil] at hlen; omega), qS, List.all_nil, Bool.true_and, vw]
    | cons x T =>
      simp only [List.length_cons] at hlen hk
      have e1 : rd (s.map xK) (D.length : Int) = xK x := by rw [← h1, List.map_append, List.map_cons]; exact yn _ _ _ (by rw [List.length_map])
      have e3 : qB ((D.length : Int) + 1) = ((D ++ [x]).length : Int) := by rw [qP (by omega) (by omega)]; simp
      have e4 : (decide (xK x < (32 : Int)) || decide (xK x > (126 : Int))) = !Qf x := by
        unfold Qf xK
        rw [Bool.eq_iff_iff]; simp only [Bool.or_eq_true, decide_eq_true_eq, Bool.not_eq_true', decide_eq_false_iff_not]; omega
      rw [if_pos (by omega), zC (by omega), qw, qS, e1, e4, e3, List.all_cons]
      cases hx : Qf x with
      | false => rfl
      | true =>
        rw [Bool.not_true, cond_false, Bool.true_and]
        exact ih (D ++ [x]) T (by rw [← h1]; simp) (by omega)
theorem Qt (K : Nat) (s : List UInt8) (hs : s.length ≤ 9223372036854775807) (hK : s.length < K) : zh.m K s = .ok (vh s) := by
  unfold zh.m
  rw [zu hs, qw, qS]
  exact v2 K s hs K [] s rfl hK
theorem uA (K : Nat) (s : List UInt8) (hs : s.length ≤ 9223372036854775807) : ∀ (k : Nat) (D T : List UInt8), D ++ T = s → T.length < k →
    qX.l1 K s k (D.length : Int) = .ok (T.all Qf && decide (s.length = 4)) := by
  intro k
  induction k with
  | zero => intro D T _ h; omega
  | succ k ih =>
    intro D T h1 hk
    have hlen : D.length + T.length = s.length := by rw [← h1]; simp
    rw [qX.l1, qT]
    cases T with
    | nil =>
      rw [if_neg (by simp only [List.length_nil] at hlen; omega), qS, List.all_nil, Bool.true_and, vw]
    | cons x T =>
      simp only [List.length_cons] at hlen hk
      have e1 : rd s (D.length : Int) = x := by rw [← h1]; exact yn D x T rfl
      have e3 : qB ((D.length : Int) + 1) = ((D ++ [x]).length : Int) := by rw [qP (by omega) (by omega)]; simp
      have e4 : (decide ((x.toNat : Int) < (32 : Int)) || decide ((x.toNat : Int) > (126 : Int))) = !Qf x := by
        unfold Qf
        rw [Bool.eq_iff_iff]; simp only [Bool.or_eq_true, decide_eq_true_eq, Bool.not_eq_true', decide_eq_false_iff_not]; omega
      rw [if_pos (by omega), zC (by omega), qw, e1, e4, e3, List.all_cons]
      cases hx : Qf x with
      | false => rfl
      | true =>
        rw [Bool.not_true, cond_false, Bool.true_and, qS]
        exact ih (D ++ [x]) T (by rw [← h1]; simp) (by omega)
theorem Q1 (K : Nat) (s : List UInt8) (hs : s.length ≤ 9223372036854775807) (hK : s.length < K) : qX.m K s = .ok (vh s) :=
  uA K s hs K [] s rfl hK
def xy (n : Nat) : Nat := (n + 3) / 4 * 4
theorem uC (x : BitVec 64) : x &&& ~~~ 3#64 = (x >>> 2) <<< 2 := by
  apply BitVec.eq_of_getLsbD_eq
  intro i hi
  rcases i with _ | _ | i
  · simp
  · simp
  · have : (3#64).getLsbD (i + 2) = false := by
      simp only [BitVec.getLsbD_ofNat]
      have : Nat.testBit 3 (i + 2) = false := by
        rw [Nat.testBit_eq_decide_div_mod_eq]
        have : 3 / 2 ^ (i + 2) = 0 := Nat.div_eq_of_lt (by rw [Nat.pow_add]; have := Nat.two_pow_pos i; omega)
        rw [this]; rfl
      rw [this]; simp
    rw [BitVec.getLsbD_and, BitVec.getLsbD_not, BitVec.getLsbD_shiftLeft, BitVec.getLsbD_ushiftRight, show i + 1 + 1 = i + 2 from rfl, this]
    have h2 : decide (i + 2 < 64) = true := decide_eq_true hi
    have h3 : decide (i + 2 < 2) = false := decide_eq_false (by omega)
    rw [h2, h3, show 2 + (i + 2 - 2) = i + 2 by omega]; simp
theorem Zb {n : Nat} (h : n < 9223372036854775804) : vr .i64 (n : Int) 3 = ((n / 4 * 4 : Nat) : Int) := by
  show IntKind.i64.wrap ((BitVec.ofInt 64 (n : Int) &&& ~~~ BitVec.ofInt 64 (3 : Int)).toNat : Int) = _
  have e : (BitVec.ofInt 64 (n : Int) &&& ~~~ BitVec.ofInt 64 (3 : Int)).toNat = n / 4 * 4 := by
    rw [jW, show BitVec.ofInt 64 (3 : Int) = 3#64 from rfl, uC]; simp; omega
  rw [e]
  exact qP (by omega) (by omega)
theorem jZ (K n : Nat) (h : n < 9223372036854775000) : zN.m K (n : Int) = .ok ((xy n : Nat) : Int) := by
  unfold zN.m xy
  rw [qP (by omega) (by omega), show (n : Int) + 3 = ((n + 3 : Nat) : Int) by omega, Zb (by omega), qS]
theorem uX (K n : Nat) (h : n < 9223372036854775000) : zv.m K (n : Int) = .ok ((xy n : Nat) : Int) := by
  unfold zv.m xy
  have e : y9 .i64 ((n + 3 : Nat) : Int) 4 = (((n + 3) / 4 : Nat) : Int) := uM (b := 4) (by omega) (by decide)
  rw [qP (x := (n : Int) + 3) (by omega) (by omega), show (n : Int) + 3 = ((n + 3 : Nat) : Int) by omega, e, qP (by omega) (by omega), qS]
  congr 1
theorem w4 : QF 4 := .inr (.inr (.inl rfl))
theorem w2 : QF 2 := .inr (.inl rfl)
theorem uk (K n : Nat) (h : n < 4294967296) (hK : 8 < K) : yr.m K (n : Int) = .ok (xR 4 n) := by
  unfold yr.m
  have := vM K n 4 w4 (by omega) hK
  rw [show ((4 : Nat) : Int) = 4 from rfl] at this
  rw [yt (by omega) (by omega), this, qQ.bind_ok]
  unfold x3
  rw [if_pos (by omega)]
theorem uj (K n : Nat) (h : n < 65536) (hK : 8 < K) : yq.m K (n : Int) = .ok (xR 2 n) := by
  unfold yq.m
  have := vM K n 2 w2 (by omega) hK
  rw [show ((2 : Nat) : Int) = 2 from rfl] at this
  rw [yt (by omega) (by omega), this, qQ.bind_ok]
  unfold x3
  rw [if_pos (by omega)]
theorem Qw (K n : Nat) (h : n < 4294967296) (hK : 8 < K) : zl.m K (n : Int) = .ok (xR 4 n) := by
  unfold zl.m
  have := vC K n 4 w4 (by omega) hK
  rw [show ((4 : Nat) : Int) = 4 from rfl] at this
  rw [yt (by omega) (by omega), this, qQ.bind_ok]
  unfold x3
  rw [if_pos (by omega)]
theorem Qu (K n : Nat) (h : n < 65536) (hK : 8 < K) : zk.m K (n : Int) = .ok (xR 2 n) := by
  unfold zk.m
  have := vC K n 2 w2 (by omega) hK
  rw [show ((2 : Nat) : Int) = 2 from rfl] at this
  rw [yt (by omega) (by omega), this, qQ.bind_ok]
  unfold x3
  rw [if_pos (by omega)]
def ye (kind n : Nat) : List UInt8 := (((xR 4 kind ++ xR 2 n) ++ xR 2 (16 * 2 ^ n.log2)) ++ xR 2 n.log2) ++ xR 2 (16 * (n - 2 ^ n.log2))
theorem yu (kind n : Nat) : (ye kind n).length = 12 := by simp [ye, zH]
theorem ue (K kind n : Nat) (hk : kind < 4294967296) (hn : n ≤ 1000) (hK : 8 < K) : ∀ (k e : Nat), 2 ^ e ≤ n → n < e + k →
    zz.l1 K (kind : Int) (n : Int) k ((2 ^ e : Nat) : Int) (e : Int) = .ok (ye kind n) ∧ qA.l1 K (kind : Int) (n : Int) k ((2 ^ e : Nat) : Int) (e : Int) = .ok (ye kind n) := by
  intro k
  induction k with
  | zero =>
    intro e h1 h2
    have := Nat.lt_two_pow_self (n := e)
    omega
  | succ k ih =>
    intro e h1 h2
    have hlt := Nat.lt_two_pow_self (n := e)
    have e2 : qB ((2 : Int) * ((2 ^ e : Nat) : Int)) = ((2 ^ (e + 1) : Nat) : Int) := by rw [qP (by omega) (by omega), Nat.pow_succ]; omega
    have e2' : qB (((2 ^ e : Nat) : Int) * 2) = ((2 ^ (e + 1) : Nat) : Int) := by rw [qP (by omega) (by omega), Nat.pow_succ]; omega
    have e1 : qB ((e : Int) + 1) = ((e + 1 : Nat) : Int) := by rw [qP (by omega) (by omega)]; omega
    rw [zz.l1, qA.l1, qT, qT, e2]
    by_cases hc : 2 ^ (e + 1) ≤ n
    · rw [if_pos (by omega), if_pos (by omega), qS, qS, qS, qS, e1, e2']
      exact ih (e + 1) hc (by omega)
    · rw [if_neg (by omega), if_neg (by omega)]
      have hlog : n.log2 = e := (Nat.log2_eq_iff (by omega)).2 ⟨h1, by omega⟩
      have e3 : wr .i64 (kind : Int) = (kind : Int) := y4 (by omega) (by omega)
      have e4 : qB ((16 : Int) * ((2 ^ e : Nat) : Int)) = ((16 * 2 ^ e : Nat) : Int) := by rw [qP (by omega) (by omega)]; omega
      have e5 : qB ((16 : Int) * qB ((n : Int) - ((2 ^ e : Nat) : Int))) = ((16 * (n - 2 ^ e) : Nat) : Int) := by
        rw [qP (x := (n : Int) - _) (by omega) (by omega), qP (by omega) (by omega)]; omega
      unfold ye
      rw [hlog]
      constructor
      · rw [e3, uk K kind hk hK, qQ.bind_ok, uj K n (by omega) hK, qQ.bind_ok, zu (by simp [zH]), qw, e4, uj K _ (by omega) hK, qQ.bind_ok, zu (by simp [zH]), qw,
          uj K e (by omega) hK, qQ.bind_ok, zu (by simp [zH]), qw, e5, uj K _ (by omega) hK, qQ.bind_ok, zu (by simp [zH]), qw, qS]
      · unfold qA.j2
        rw [e3, Qw K kind hk hK, qQ.bind_ok, Qu K n (by omega) hK, qQ.bind_ok, zu (by simp [zH]), qw, e4, Qu K _ (by omega) hK, qQ.bind_ok, zu (by simp [zH]), qw,
          Qu K e (by omega) hK, qQ.bind_ok, zu (by simp [zH]), qw, e5, Qu K _ (by omega) hK, qQ.bind_ok, zu (by simp [zH]), qw, qS]
theorem uV (K kind n : Nat) (hk : kind < 4294967296) (h1 : 1 ≤ n) (hn : n ≤ 1000) (hK : 1000 < K) : zz.m K (kind : Int) (n : Int) = .ok (ye kind n) :=
  (ue K kind n hk hn (by omega) K 0 (by simpa using h1) (by omega)).1
theorem Qv (K kind n : Nat) (hk : kind < 4294967296) (h1 : 1 ≤ n) (hn : n ≤ 1000) (hK : 1000 < K) : qA.m K (kind : Int) (n : Int) = .ok (ye kind n) :=
  (ue K kind n hk hn (by omega) K 0 (by simpa using h1) (by omega)).2
def Zs (p : Option (List UInt8)) (t : Tb) : Bool := vh t.Tag_ && ((match p with | none => true | some q => Op.bytesLess q t.Tag_) && decide (t.Data_.length ≤ 16777216))
def vj : Option (List UInt8) → List Tb → Bool
  | _, [] => true
  | p, t :: r => Zs p t && vj (some t.Tag_) r
def jx : List Tb → Nat
  | [] => 0
  | t :: r => xy t.Data_.length + jx r
def jY (D : List Tb) : Option (List UInt8) := D.getLast?.map (·.Tag_)
theorem yv (D : List Tb) (t : Tb) : jY (D ++ [t]) = some t.Tag_ := by simp [jY]
theorem Qi (K : Nat) (l : List Tb) (hl : l.length ≤ 100000) (hb : ∀ t ∈ l, t.Tag_.length ≤ 9223372036854775807 ∧ t.Tag_.length < K) : ∀ (k : Nat) (D T : List Tb) (all : Nat), D ++ T = l → T.length < k → all + jx T < 1099511627776 →
    qH.l1 K l k (all : Int) (D.length : Int) = .ok (vj (jY D) T && ((decide (0 < l.length) && decide (l.length ≤ 1000)) && decide (all + jx T < 1073741824))) := by
  intro k
  induction k with
  | zero => intro D T all _ h; omega
  | succ k ih =>
    intro D T all h1 hk hall
    have hlen : D.length + T.length = l.length := by rw [← h1]; simp
    rw [qH.l1, qT]
    cases T with
    | nil =>
      rw [if_neg (by simp only [List.length_nil] at hlen; omega)]
      unfold qH.j3
      rw [qS, vj, Bool.true_and, jx, Nat.add_zero]
      congr 1
      rw [show decide ((l.length : Int) > 0) = decide (0 < l.length) from by rw [decide_eq_decide]; omega, show decide ((l.length : Int) ≤ 1000) = decide (l.length ≤ 1000) from by rw [decide_eq_decide]; omega,
        show decide ((all : Int) < 1073741824) = decide (all < 1073741824) from by rw [decide_eq_decide]; omega]
    | cons t T =>
      simp only [List.length_cons] at hlen hk
      rw [jx] at hall
      have e1 : rd l (D.length : Int) = t := by rw [← h1]; exact yn D t T rfl
      have ht := hb t (by rw [← h1]; simp)
      have e3 : qB ((D.length : Int) + 1) = ((D ++ [t]).length : Int) := by rw [qP (by omega) (by omega)]; simp
      have hup : t.Data_.length ≤ xy t.Data_.length := by unfold xy; omega
      have next : qH.j2 K (qH.l1 K l k) l (all : Int) (D.length : Int) false = .ok (vj (some t.Tag_) T && ((decide (0 < l.length) && decide (l.length ≤ 1000)) && decide (all + jx (t :: T) < 1073741824))) := by
        unfold qH.j2
        rw [cond_false, e1, jZ K _ (by omega), qQ.bind_ok, qP (by omega) (by omega), qS, e3, show (all : Int) + ((xy t.Data_.length : Nat) : Int) = ((all + xy t.Data_.length : Nat) : Int) by omega,
          ih (D ++ [t]) T _ (by rw [← h1]; simp) (by omega) (by omega), yv, jx, Nat.add_assoc]
      have stop : ∀ g, qH.j2 K g l (all : Int) (D.length : Int) true = .ok false := fun g => rfl
      have eD : decide (((t.Data_.length : Nat) : Int) > 16777216) = !decide (t.Data_.length ≤ 16777216) := by
        rw [Bool.eq_iff_iff]; simp only [Bool.not_eq_true', decide_eq_true_eq, decide_eq_false_iff_not]; omega
      rw [if_pos (by omega), zC (by omega), qw, e1, Qt K _ ht.1 ht.2, qQ.bind_ok, eD, vj]
      unfold Zs
      cases htag : vh t.Tag_ with
      | false => rw [cond_false, stop, Bool.false_and, Bool.false_and, Bool.false_and]
      | true =>
        rw [cond_true, qT, Bool.true_and]
        have dcase : ∀ b : Bool, qH.j2 K (qH.l1 K l k) l (all : Int) (D.length : Int) (!b) = .ok ((b && vj (some t.Tag_) T) && ((decide (0 < l.length) && decide (l.length ≤ 1000)) && decide (all + jx (t :: T) < 1073741824))) := by
          intro b
          cases b with
          | false => rw [Bool.not_false, stop, Bool.false_and, Bool.false_and]
          | true => rw [Bool.not_true, next, Bool.true_and]
        rcases List.eq_nil_or_concat D with rfl | ⟨D', q, rfl⟩
        · rw [if_neg (by simp), dcase]; rfl
        · have e4 : qB (((D'.concat q).length : Int) - 1) = (D'.length : Int) := by rw [qP (by omega) (by omega)]; simp
          have e5 : rd l (D'.length : Int) = q := by rw [← h1]; simp only [List.concat_eq_append, List.append_assoc, List.singleton_append]; exact yn D' q _ rfl
          have hi : (D'.concat q).length = D'.length + 1 := by simp
          rw [if_pos (by rw [hi]; omega), e4, zC (by rw [hi] at hlen; omega), qw, e5, jz]
          have ep : jY (D'.concat q) = some q.Tag_ := by rw [List.concat_eq_append]; exact yv D' q
          rw [ep]
          dsimp only
          cases hless : Op.bytesLess q.Tag_ t.Tag_ with
          | false => rw [cond_false, stop, Bool.false_and, Bool.false_and, Bool.false_and]
          | true => rw [cond_true, dcase, Bool.true_and]
theorem uU (K : Nat) (l : List Tb) (hl : l.length ≤ 100000) (hb : ∀ t ∈ l, t.Tag_.length ≤ 9223372036854775807 ∧ t.Tag_.length < K) (hs : jx l < 1073741824) (hK : l.length < K) :
    qH.m K l = .ok (vj none l && (decide (0 < l.length) && decide (l.length ≤ 1000))) := by
  have := Qi K l hl hb K [] l 0 rfl hK (by omega)
  rw [Nat.zero_add, decide_eq_true hs, Bool.and_true] at this
  exact this
theorem QV (K : Nat) (l : List Tb) (hl : l.length ≤ 100000) (hb : ∀ t ∈ l, t.Tag_.length ≤ 9223372036854775807 ∧ t.Tag_.length < K) : ∀ (k : Nat) (D T : List Tb) (all : Nat), D ++ T = l → T.length < k → all + jx T < 1073741824 →
    qj.l1 K l k (all : Int) (D.length : Int) = .ok (vj (jY D) T) := by
  intro k
  induction k with
  | zero => intro D T all _ h; omega
  | succ k ih =>
    intro D T all h1 hk hall
    have hlen : D.length + T.length = l.length := by rw [← h1]; simp
    rw [qj.l1, qT]
    cases T with
    | nil =>
      rw [if_neg (by simp only [List.length_nil] at hlen; omega)]; rfl
    | cons t T =>
      simp only [List.length_cons] at hlen hk
      rw [jx] at hall
      have e1 : rd l (D.length : Int) = t := by rw [← h1]; exact yn D t T rfl
      have ht := hb t (by rw [← h1]; simp)
      have e3 : qB ((D.length : Int) + 1) = ((D ++ [t]).length : Int) := by rw [qP (by omega) (by omega)]; simp
      have hup : t.Data_.length ≤ xy t.Data_.length := by unfold xy; omega
      have next : qj.j2 K (qj.l1 K l k) l (all : Int) (D.length : Int) false = .ok (vj (some t.Tag_) T) := by
        unfold qj.j2
        rw [cond_false, zC (by omega), qw, e1, uX K _ (by omega), qQ.bind_ok, qP (by omega) (by omega), qS, qT, if_neg (by omega), e3, qS, show (all : Int) + ((xy t.Data_.length : Nat) : Int) = ((all + xy t.Data_.length : Nat) : Int) by omega,
          ih (D ++ [t]) T _ (by rw [← h1]; simp) (by omega) (by omega), yv]
      have stop : ∀ g, qj.j2 K g l (all : Int) (D.length : Int) true = .ok false := fun g => rfl
      have eD : decide (((t.Data_.length : Nat) : Int) > 16777216) = !decide (t.Data_.length ≤ 16777216) := by
        rw [Bool.eq_iff_iff]; simp only [Bool.not_eq_true', decide_eq_true_eq, decide_eq_false_iff_not]; omega
      rw [if_pos (by omega), zC (by omega), qw, e1, Q1 K _ ht.1 ht.2, qQ.bind_ok, eD, vj]
      unfold Zs
      cases htag : vh t.Tag_ with
      | false => rw [cond_false, stop, Bool.false_and, Bool.false_and]
      | true =>
        rw [cond_true, qT, Bool.true_and]
        have dcase : ∀ b : Bool, qj.j2 K (qj.l1 K l k) l (all : Int) (D.length : Int) (!b) = .ok (b && vj (some t.Tag_) T) := by
          intro b
          cases b with
          | false => rw [Bool.not_false, stop, Bool.false_and]
          | true => rw [Bool.not_true, next, Bool.true_and]
        rcases List.eq_nil_or_concat D with rfl | ⟨D', q, rfl⟩
        · rw [if_neg (by simp), dcase]; rfl
        · have e4 : qB (((D'.concat q).length : Int) - 1) = (D'.length : Int) := by rw [qP (by omega) (by omega)]; simp
          have e5 : rd l (D'.length : Int) = q := by rw [← h1]; simp only [List.concat_eq_append, List.append_assoc, List.singleton_append]; exact yn D' q _ rfl
          have hi : (D'.concat q).length = D'.length + 1 := by simp
          rw [if_pos (by rw [hi]; omega), e4, zC (by rw [hi] at hlen; omega), qw, e5, jz]
          have ep : jY (D'.concat q) = some q.Tag_ := by rw [List.concat_eq_append]; exact yv D' q
          rw [ep]
          dsimp only
          cases hless : Op.bytesLess q.Tag_ t.Tag_ with
          | false => rw [cond_false, stop, Bool.false_and, Bool.false_and]
          | true => rw [cond_true, dcase, Bool.true_and]
theorem Q0 (K : Nat) (l : List Tb) (hl : l.length ≤ 100000) (hb : ∀ t ∈ l, t.Tag_.length ≤ 9223372036854775807 ∧ t.Tag_.length < K) (hs : jx l < 1073741824) (hK : l.length < K) :
    qj.m K l = .ok (vj none l && (decide (0 < l.length) && decide (l.length ≤ 1000))) := by
  unfold qj.m
  have := QV K l hl hb K [] l 0 rfl hK (by omega)
  have d : (decide ((l.length : Int) < 1) || decide ((l.length : Int) > 1000)) = !(decide (0 < l.length) && decide (l.length ≤ 1000)) := by
    rw [Bool.eq_iff_iff]; simp only [Bool.or_eq_true, decide_eq_true_eq, Bool.not_eq_true', Bool.and_eq_false_iff, decide_eq_false_iff_not]; omega
  rw [d]
  cases (decide (0 < l.length) && decide (l.length ≤ 1000)) with
  | false => rw [Bool.not_false, cond_true, Bool.and_false]
  | true => rw [Bool.not_true, cond_false, Bool.and_true]; exact this
def vL : List Tb → Nat
  | [] => 0
  | t :: r => t.Data_.length + vL r
theorem u9 (K : Nat) (l : List Tb) (hl : l.length ≤ 1001) : ∀ (k : Nat) (D T : List Tb) (n : Nat), D ++ T = l → T.length < k → n ≤ 105000 →
    ∃ b, qM.l1 K l k (n : Int) (D.length : Int) = .ok b ∧ (b = true → n + vL T ≤ 105000 ∧ ∀ t ∈ T, t.Data_.length ≤ 5000) := by
  intro k
  induction k with
  | zero => intro D T n _ h; omega
  | succ k ih =>
    intro D T n h1 hk hn
    have hlen : D.length + T.length = l.length := by rw [← h1]; simp
    rw [qM.l1, qT]
    cases T with
    | nil =>
      rw [if_neg (by simp only [List.length_nil] at hlen; omega)]
      exact ⟨true, rfl, fun _ => ⟨by simpa [vL] using hn, by simp⟩⟩
    | cons t T =>
      simp only [List.length_cons] at hlen hk
      have e1 : rd l (D.length : Int) = t := by rw [← h1]; exact yn D t T rfl
      have e3 : qB ((D.length : Int) + 1) = ((D ++ [t]).length : Int) := by rw [qP (by omega) (by omega)]; simp
      rw [if_pos (by omega), zC (by omega), qw, e1, Qg, qT, qT]
      by_cases h5 : t.Data_.length > 5000
      · rw [if_pos (by omega)]; exact ⟨false, rfl, fun h => by cases h⟩
      · rw [if_neg (by omega)]
        by_cases h6 : n > 100000
        · rw [if_pos (by omega)]; exact ⟨false, rfl, fun h => by cases h⟩
        · rw [if_neg (by omega), qS, qS, e3, qP (by omega) (by omega), show (n : Int) + ((t.Data_.length : Nat) : Int) = ((n + t.Data_.length : Nat) : Int) by omega]
          obtain ⟨b, hb, h⟩ := ih (D ++ [t]) T (n + t.Data_.length) (by rw [← h1]; simp) (by omega) (by omega)
          refine ⟨b, hb, fun hbt => ?_⟩
          obtain ⟨q1, q2⟩ := h hbt
          refine ⟨by rw [vL]; omega, fun u hu => ?_⟩
          rcases List.mem_cons.1 hu with rfl | hu
          · omega
          · exact q2 u hu
theorem uo : ∀ l : List Tb, jx l ≤ vL l + 3 * l.length
  | [] => by simp [jx]
  | t :: r => by
    have := uo r
    rw [jx, vL, List.length_cons]; unfold xy; omega
theorem Zm (K : Nat) (l : List Tb) (hK : 1002 ≤ K) : ∃ b, qM.m K l = .ok b ∧ (b = true → l.length ≤ 1001 ∧ vL l ≤ 105000 ∧ jx l ≤ 108003 ∧ ∀ t ∈ l, t.Data_.length ≤ 5000) := by
  unfold qM.m
  rw [qT]
  by_cases h : l.length > 1001
  · rw [if_pos (by omega)]; exact ⟨false, rfl, fun h => by cases h⟩
  · rw [if_neg (by omega)]
    obtain ⟨b, hb, h2⟩ := u9 K l (by omega) K [] l 0 rfl (by omega) (by omega)
    refine ⟨b, hb, fun hbt => ?_⟩
    obtain ⟨q1, q2⟩ := h2 hbt
    have := uo l
    exact ⟨by omega, by omega, by omega, q2⟩
theorem Qz (K : Nat) (l : List Tb) (hl : l.length ≤ 100000) : ∀ (k : Nat) (D T : List Tb), D ++ T = l → T.length < k → qL.l1 K l l k (D.length : Int) = .ok true := by
  intro k
  induction k with
  | zero => intro D T _ h; omega
  | succ k ih =>
    intro D T h1 hk
    have hlen : D.length + T.length = l.length := by rw [← h1]; simp
    rw [qL.l1, qT]
    cases T with
    | nil => rw [if_neg (by simp only [List.length_nil] at hlen; omega)]
    | cons t T =>
      simp only [List.length_cons] at hlen hk
      have e3 : qB ((D.length : Int) + 1) = ((D ++ [t]).length : Int) := by rw [qP (by omega) (by omega)]; simp
      rw [if_pos (by omega), zC (by omega), qw, qw]
      simp only [beq_self_eq_true, Bool.and_self, Bool.not_true, cond_false, qS]
      rw [e3]
      exact ih (D ++ [t]) T (by rw [← h1]; simp) (by omega)
theorem same (K : Nat) (l : List Tb) (hl : l.length ≤ 100000) (hK : l.length < K) : qL.m K l l = .ok true := by
  unfold qL.m
  rw [show ((l.length : Int) != (l.length : Int)) = false from by simp, cond_false]
  exact Qz K l hl K [] l rfl hK
end Go.Pn

set_option maxRecDepth 100000
namespace Go.Pn
open Go Go.Sl Go.Pu Go.Mo
def u4 (at_ : Nat) (t : Tb) : List UInt8 := ((t.Tag_ ++ xR 4 (y3 t.Data_)) ++ xR 4 at_) ++ xR 4 t.Data_.length
def uS (t : Tb) : List UInt8 := t.Data_ ++ List.replicate (xy t.Data_.length - t.Data_.length) 0
theorem yl (t : Tb) : (uS t).length = xy t.Data_.length := by simp [uS]; unfold xy; omega
def yp : Nat → List Tb → List UInt8
  | _, [] => []
  | at_, t :: r => u4 at_ t ++ yp (at_ + xy t.Data_.length) r
def yc : List Tb → List UInt8
  | [] => []
  | t :: r => uS t ++ yc r
theorem vH {at_ : Nat} {t : Tb} (h : t.Tag_.length = 4) : (u4 at_ t).length = 16 := by simp [u4, zH, h]
def Zg (kind : Nat) (l : List Tb) : List UInt8 := ye kind l.length ++ yp (12 + 16 * l.length) l ++ yc l
theorem jF : ∀ (p : Option (List UInt8)) (l : List Tb), vj p l = true → ∀ t ∈ l, vh t.Tag_ = true ∧ t.Data_.length ≤ 16777216
  | _, [], _ => by simp
  | p, t :: r, h => by
    rw [vj, Bool.and_eq_true] at h
    intro u hu
    rcases List.mem_cons.1 hu with rfl | hu
    · have h2 := h.1
      unfold Zs at h2
      simp only [Bool.and_eq_true, decide_eq_true_eq] at h2
      exact ⟨h2.1, h2.2.2⟩
    · exact jF _ r h.2 u hu
theorem z8 (a b : List UInt8) : a.map xK ++ b.map xK = (a ++ b).map xK := by rw [List.map_append]
theorem ZG (n : Nat) (h : n ≤ 1000) : u1 ([0] : List UInt8) (n : Int) = .ok (List.replicate n 0) := by
  unfold u1
  rw [show (decide (0 ≤ (n : Int)) && decide ((n : Int) ≤ 9223372036854775807) && decide (([0] : List UInt8).length * (n : Int).toNat ≤ 140737488355328)) = true from by
    simp only [Bool.and_eq_true, decide_eq_true_eq, List.length_singleton, Int.toNat_natCast]; omega, qw, Int.toNat_natCast]
  congr 1
  induction n with
  | zero => rfl
  | succ n ih => rw [List.replicate_succ, List.flatten_cons, ih (by omega)]; rfl
theorem ve (K kind : Nat) (l : List Tb) (hk : kind < 4294967296) (hl : 1 ≤ l.length ∧ l.length ≤ 1000) (htag : ∀ t ∈ l, t.Tag_.length = 4) (hd : ∀ t ∈ l, t.Data_.length < K) (hK : 1000 < K) :
    ∀ (k : Nat) (D T : List Tb) (R B : List UInt8), D ++ T = l → T.length < k → B.length + jx T < 1073741824 → R.length = 16 * D.length →
    qK.l2 K (kind : Int) l ((12 + 16 * l.length : Nat) : Int) k (R.map xK) (B.map xK) (D.length : Int) =
      .ok (ye kind l.length ++ (R ++ yp (12 + 16 * l.length + B.length) T) ++ (B ++ yc T), 0) := by
  intro k
  induction k with
  | zero => intro D T _ _ _ h; omega
  | succ k ih =>
    intro D T R B h1 hk2 hB hR
    have hlen : D.length + T.length = l.length := by rw [← h1]; simp
    rw [qK.l2, qT]
    cases T with
    | nil =>
      rw [if_neg (by simp only [List.length_nil] at hlen; omega)]
      simp only [List.length_nil] at hlen
      unfold qK.j3 zd.m
      rw [uV K kind l.length hk hl.1 hl.2 hK, qQ.bind_ok, qS, qQ.bind_ok, xt, zu (by rw [yu]; omega), qw, qS, qQ.bind_ok, xt,
        zu (by rw [List.length_append, yu]; omega), qw, qS, yp, yc, List.append_nil, List.append_nil]
    | cons t T =>
      simp only [List.length_cons] at hlen hk2
      rw [jx] at hB
      have e1 : rd l (D.length : Int) = t := by rw [← h1]; exact yn D t T rfl
      have htl := htag t (by rw [← h1]; simp)
      have hdl := hd t (by rw [← h1]; simp)
      have hup : t.Data_.length ≤ xy t.Data_.length ∧ xy t.Data_.length ≤ t.Data_.length + 3 := by unfold xy; omega
      have hw := vO t.Data_
      have e3 : qB ((D.length : Int) + 1) = ((D ++ [t]).length : Int) := by rw [qP (by omega) (by omega)]; simp
      have eat : qB (((12 + 16 * l.length : Nat) : Int) + (((B.map xK).length : Nat) : Int)) = ((12 + 16 * l.length + B.length : Nat) : Int) := by rw [List.length_map, qP (by omega) (by omega)]; omega
      have epd : qB (((xy t.Data_.length : Nat) : Int) - ((t.Data_.length : Nat) : Int)) = ((xy t.Data_.length - t.Data_.length : Nat) : Int) := by rw [qP (by omega) (by omega)]; omega
      have lw : ∀ A, (xR 4 A).length = 4 := zH 4
      rw [if_pos (by omega), zC (by omega), qw, e1, uy K _ (by omega) hdl, qQ.bind_ok, y4 (x := ((y3 t.Data_ : Nat) : Int)) (by omega) (by omega), uk K _ hw (by omega), qQ.bind_ok, zu (by rw [htl, lw]; omega), qw]
      unfold zD.m q5.m strings_Repeat.m
      rw [qS, qQ.bind_ok, eat, uk K _ (by omega) (by omega), qQ.bind_ok, zu (by simp only [List.length_append, htl, lw]; omega), qw, uk K _ (by omega) (by omega), qQ.bind_ok, zu (by simp only [List.length_append, htl, lw]; omega), qw,
        xG (by simp only [List.length_append, List.length_map, htl, lw]; omega), qw, qS, qS, qQ.bind_ok]
      dsimp only
      rw [jZ K _ (by omega), qQ.bind_ok, epd, ZG _ (by omega), qQ.bind_ok, qQ.bind_ok, zu (by rw [List.length_replicate]; omega), qw, xG (by simp only [List.length_append, List.length_map, List.length_replicate]; omega), qw, qS, qS, qQ.bind_ok]
      dsimp only
      rw [e3, z8, z8, show ((t.Tag_ ++ xR 4 (y3 t.Data_)) ++ xR 4 (12 + 16 * l.length + B.length)) ++ xR 4 t.Data_.length = u4 (12 + 16 * l.length + B.length) t from rfl,
        show t.Data_ ++ List.replicate (xy t.Data_.length - t.Data_.length) 0 = uS t from rfl, ih (D ++ [t]) T _ _ (by rw [← h1]; simp) (by omega) (by rw [List.length_append, yl]; omega) (by rw [List.length_append, vH htl, hR, List.length_append, List.length_singleton]; omega),
        yp, yc, List.length_append, yl, List.append_assoc R, List.append_assoc B, Nat.add_assoc (12 + 16 * l.length)]
theorem QG (kind : Nat) : (((kind : Int) == (65536 : Int)) || ((kind : Int) == (1330926671 : Int))) = decide (kind = 65536 ∨ kind = 1330926671) := by
  rw [Bool.eq_iff_iff]; simp only [Bool.or_eq_true, beq_iff_eq, decide_eq_true_eq]; omega
def yL (kind : Nat) (l : List Tb) : List UInt8 × Int :=
  if (kind = 65536 ∨ kind = 1330926671) ∧ vj none l = true ∧ 0 < l.length ∧ l.length ≤ 1000 then (Zg kind l, 0) else ([], 1)
theorem uz (K kind : Nat) (l : List Tb) (hk : kind < 4294967296) (hl : l.length ≤ 100000) (hb : ∀ t ∈ l, t.Tag_.length ≤ 9223372036854775807 ∧ t.Tag_.length < K) (hs : jx l < 1073741824) (hd : ∀ t ∈ l, t.Data_.length < K) (hK : 100000 < K) :
    qK.m K (kind : Int) l = .ok (yL kind l) := by
  unfold qK.m xw.m yL
  rw [QG, qS, qQ.bind_ok]
  have dl : decide ((l.length : Int) > 1000) = !decide (l.length ≤ 1000) := by rw [Bool.eq_iff_iff]; simp only [Bool.not_eq_true', decide_eq_true_eq, decide_eq_false_iff_not]; omega
  rw [dl]
  by_cases h1 : kind = 65536 ∨ kind = 1330926671
  · rw [decide_eq_true h1, Bool.not_true, Bool.false_or, jz, qT]
    by_cases h2 : l.length ≤ 1000
    · rw [if_pos h2, uU K l hl hb hs (by omega), qQ.bind_ok, decide_eq_true h2, Bool.and_true]
      unfold qK.j1
      cases h3 : vj none l with
      | false => rw [if_neg (by simp)]; rfl
      | true =>
        by_cases h4 : 0 < l.length
        · rw [decide_eq_true h4, if_pos ⟨h1, rfl, h4, h2⟩, Bool.true_and, Bool.not_true, cond_false, qS]
          have ef : qB ((12 : Int) + qB ((16 : Int) * (l.length : Int))) = ((12 + 16 * l.length : Nat) : Int) := by rw [qP (x := 16 * _) (by omega) (by omega), qP (by omega) (by omega)]; omega
          have ht := jF none l h3
          have := ve K kind l hk ⟨h4, h2⟩ (fun t h => vJ (ht t h).1) hd (by omega) K [] l [] [] rfl (by omega) (by simpa using hs) rfl
          rw [ef]
          exact this
        · rw [decide_eq_false h4, if_neg (fun h => h4 h.2.2.1)]; rfl
    · rw [if_neg h2, if_neg (fun h => h2 h.2.2.2)]; rfl
  · rw [decide_eq_false h1, if_neg (fun h => h1 h.1)]; rfl
theorem Qs (K : Nat) (g : List Int → List Int → Int → qQ (List UInt8 × Int)) (i : Int) (z : List Int) : ∀ (k : Nat) (b : List Int), xy b.length - b.length < k → xy b.length < 1099511627776 →
    qd.l3 K g i z k b = g z (b ++ List.replicate (xy b.length - b.length) 0) (qB (i + 1)) := by
  intro k
  induction k with
  | zero => intro b h; omega
  | succ k ih =>
    intro b h hb
    have e2 : ja (b.length : Int) 4 = ((b.length % 4 : Nat) : Int) := jC (b := 4)
    rw [qd.l3, e2, uF]
    by_cases hm : b.length % 4 = 0
    · have : xy b.length = b.length := by unfold xy; omega
      rw [if_pos (by omega), qS, this, Nat.sub_self]; simp
    · have hu : xy (b.length + 1) = xy b.length := by unfold xy; omega
      have hu2 : b.length < xy b.length := by unfold xy; omega
      rw [if_neg (by omega), xG (by rw [List.length_singleton]; omega), qw, qS, ih _ (by rw [List.length_append, List.length_singleton, hu]; omega) (by rw [List.length_append, List.length_singleton, hu]; omega)]
      rw [List.length_append, List.length_singleton, hu, show xy b.length - b.length = (xy b.length - (b.length + 1)) + 1 by omega, List.replicate_succ, List.append_assoc]; rfl
theorem vG (K : Nat) (l : List Tb) (hl : 1 ≤ l.length ∧ l.length ≤ 1000) (htag : ∀ t ∈ l, t.Tag_.length = 4) (hd : ∀ t ∈ l, t.Data_.length < K) (hK : 1000 < K) :
    ∀ (k : Nat) (D T : List Tb) (R B : List UInt8), D ++ T = l → T.length < k → B.length + jx T < 1073741824 → B.length % 4 = 0 → R.length = 12 + 16 * D.length →
    qd.l2 K l ((12 + 16 * l.length : Nat) : Int) k (R.map xK) (B.map xK) (D.length : Int) =
      .ok ((R ++ yp (12 + 16 * l.length + B.length) T) ++ (B ++ yc T), 0) := by
  intro k
  induction k with
  | zero => intro D T _ _ _ h; omega
  | succ k ih =>
    intro D T R B h1 hk2 hB h4 hR
    have hlen : D.length + T.length = l.length := by rw [← h1]; simp
    rw [qd.l2, qT]
    cases T with
    | nil =>
      rw [if_neg (by simp only [List.length_nil] at hlen; omega)]
      simp only [List.length_nil] at hlen
      unfold qd.j4
      rw [xG (by rw [List.length_map, List.length_map]; omega), qw, qS, qS, z8, xt, yp, yc, List.append_nil, List.append_nil]
    | cons t T =>
      simp only [List.length_cons] at hlen hk2
      rw [jx] at hB
      have e1 : rd l (D.length : Int) = t := by rw [← h1]; exact yn D t T rfl
      have htl := htag t (by rw [← h1]; simp)
      have hdl := hd t (by rw [← h1]; simp)
      have hup : t.Data_.length ≤ xy t.Data_.length ∧ xy t.Data_.length ≤ t.Data_.length + 3 := by unfold xy; omega
      have hw := vO t.Data_
      have e3 : qB ((D.length : Int) + 1) = ((D ++ [t]).length : Int) := by rw [qP (by omega) (by omega)]; simp
      have eat : qB (((12 + 16 * l.length : Nat) : Int) + (((B.map xK).length : Nat) : Int)) = ((12 + 16 * l.length + B.length : Nat) : Int) := by rw [List.length_map, qP (by omega) (by omega)]; omega
      have lw : ∀ A, (xR 4 A).length = 4 := zH 4
      have hup2 : xy (B.length + t.Data_.length) - (B.length + t.Data_.length) = xy t.Data_.length - t.Data_.length := by unfold xy; omega
      rw [if_pos (by omega), zC (by omega), qw, e1, uZ K _ (by omega) hdl (by omega), qQ.bind_ok, y4 (x := ((y3 t.Data_ : Nat) : Int)) (by omega) (by omega), Qw K _ hw (by omega), qQ.bind_ok, zu (by rw [htl, lw]; omega), qw,
        eat, Qw K _ (by omega) (by omega), qQ.bind_ok, zu (by simp only [List.length_append, htl, lw]; omega), qw, Qw K _ (by omega) (by omega), qQ.bind_ok, zu (by simp only [List.length_append, htl, lw]; omega), qw,
        xG (by simp only [List.length_append, List.length_map, htl, lw]; omega), qw, qS, xG (by rw [List.length_map]; omega), qw, qS, z8, z8,
        Qs K _ _ _ K _ (by rw [List.length_map, List.length_append, hup2]; omega) (by rw [List.length_map, List.length_append]; unfold xy; omega), List.length_map, List.length_append, hup2, e3,
        show List.replicate (xy t.Data_.length - t.Data_.length) (0 : Int) = (List.replicate (xy t.Data_.length - t.Data_.length) (0 : UInt8)).map xK from by rw [List.map_replicate]; rfl, z8, List.append_assoc B,
        show ((t.Tag_ ++ xR 4 (y3 t.Data_)) ++ xR 4 (12 + 16 * l.length + B.length)) ++ xR 4 t.Data_.length = u4 (12 + 16 * l.length + B.length) t from rfl,
        show t.Data_ ++ List.replicate (xy t.Data_.length - t.Data_.length) 0 = uS t from rfl, ih (D ++ [t]) T _ _ (by rw [← h1]; simp) (by omega) (by rw [List.length_append, yl]; omega) (by rw [List.length_append, yl]; unfold xy; omega) (by rw [List.length_append, vH htl, hR, List.length_append, List.length_singleton]; omega),
        yp, yc, List.length_append, yl, List.append_assoc R, List.append_assoc B, Nat.add_assoc (12 + 16 * l.length)]
theorem u0 (K kind : Nat) (l : List Tb) (hk : kind < 4294967296) (hl : l.length ≤ 100000) (hb : ∀ t ∈ l, t.Tag_.length ≤ 9223372036854775807 ∧ t.Tag_.length < K) (hs : jx l < 1073741824) (hd : ∀ t ∈ l, t.Data_.length < K) (hK : 100000 < K) :
    qd.m K (kind : Int) l = .ok (yL kind l) := by
  unfold qd.m zJ.m yL
  rw [QG, qS, qQ.bind_ok]
  by_cases h1 : kind = 65536 ∨ kind = 1330926671
  · rw [decide_eq_true h1, Bool.not_true, cond_false, Q0 K l hl hb hs (by omega), qQ.bind_ok]
    unfold qd.j1
    by_cases h2 : vj none l = true ∧ 0 < l.length ∧ l.length ≤ 1000
    · rw [h2.1, decide_eq_true h2.2.1, decide_eq_true h2.2.2, if_pos ⟨h1, rfl, h2.2⟩]
      have ef : qB ((12 : Int) + qB ((16 : Int) * (l.length : Int))) = ((12 + 16 * l.length : Nat) : Int) := by rw [qP (x := 16 * _) (by omega) (by omega), qP (by omega) (by omega)]; omega
      have ht := jF none l h2.1
      have := vG K l ⟨h2.2.1, h2.2.2⟩ (fun t h => vJ (ht t h).1) hd (by omega) K [] l (ye kind l.length) [] rfl (by omega) (by simpa using hs) rfl (by rw [yu]; rfl)
      rw [Bool.true_and, Bool.true_and, Bool.not_true, cond_false, Qv K kind l.length hk h2.2.1 h2.2.2 (by omega), qQ.bind_ok, zu (by rw [yu]; omega), qw, qS, qS, ef]
      exact this
    · rw [if_neg (fun h => h2 h.2)]
      have : (vj none l && (decide (0 < l.length) && decide (l.length ≤ 1000))) = false := by
        rw [Bool.eq_false_iff]; intro h; simp only [Bool.and_eq_true, decide_eq_true_eq] at h; exact h2 h
      rw [this]; rfl
  · rw [decide_eq_false h1, if_neg (fun h => h1 h.1)]; rfl
end Go.Pn

set_option maxRecDepth 100000
namespace Go.Pn
open Go Go.Sl Go.Pu Go.Mo
abbrev Sp := q3
structure Z8 (S : List Sp) : Prop where
  each : ∀ x ∈ S, 0 ≤ x.Lo_ ∧ x.Lo_ < x.Hi_ ∧ x.Hi_ < 2305843009213693952
  srt : S.Pairwise fun x y => x.Hi_ ≤ y.Lo_
def ZA (S : List Sp) (lo hi : Int) : List Sp := S.takeWhile (fun x => decide (x.Hi_ ≤ lo)) ++ ⟨lo, hi⟩ :: S.dropWhile (fun x => decide (x.Hi_ ≤ lo))
def QM (S : List Sp) (lo hi : Int) : Bool := S.any fun x => decide (lo < x.Hi_) && decide (x.Lo_ < hi)
abbrev It := qa
end Go.Pn

set_option maxRecDepth 100000
namespace Go.Pn
open Go Go.Sl Go.Pu Go.Mo
def ZJ (s : List UInt8) : Bool := s.all fun x => x == 0
def ZH (s : List UInt8) (S : List Sp) (row : List UInt8) : Except Int (Tb × List Sp) :=
  if yx row 8 4 % 4 ≠ 0 ∨ yx row 12 4 > 16777216 then .error 3 else
  if ¬ yx row 8 4 + xy (yx row 12 4) ≤ s.length then .error 2 else
  if ZJ ((s.drop (yx row 8 4 + yx row 12 4)).take (xy (yx row 12 4) - yx row 12 4)) = false then .error 3 else
  if 0 < yx row 12 4 ∧ QM S (yx row 8 4 : Nat) ((yx row 8 4 + xy (yx row 12 4) : Nat) : Int) = true then .error 5 else
  if y3 ((s.drop (yx row 8 4)).take (yx row 12 4)) ≠ yx row 4 4 then .error 4 else
  .ok (⟨row.take 4, (s.drop (yx row 8 4)).take (yx row 12 4)⟩, if 0 < yx row 12 4 then ZA S (yx row 8 4 : Nat) ((yx row 8 4 + xy (yx row 12 4) : Nat) : Int) else S)
def QO (s : List UInt8) (i : Nat) : List UInt8 := (s.drop (12 + 16 * i)).take 16
def uW (s : List UInt8) (kind : Nat) : Nat → Nat → List Sp → List Tb → Nat → List UInt8 → Int × List Tb × Int
  | 0, _, _, out, all, _ => if all ≥ 1073741824 then (0, [], 3) else ((kind : Int), out, 0)
  | j + 1, i, S, out, all, last =>
    if (vh ((QO s i).take 4) && Op.bytesLess last ((QO s i).take 4)) = false then (0, [], 3) else
    match ZH s S (QO s i) with
    | .error e => (0, [], e)
    | .ok (t, S') => uW s kind j (i + 1) S' (out ++ [t]) (all + xy t.Data_.length) t.Tag_
def ZQ (s : List UInt8) : Int × List Tb × Int :=
  if s.length < 12 then (0, [], 2) else
  if ¬ ((yx s 0 4 = 65536 ∨ yx s 0 4 = 1330926671) ∧ 1 ≤ yx s 4 2 ∧ yx s 4 2 ≤ 1000 ∧ s.take 12 = ye (yx s 0 4) (yx s 4 2)) then (0, [], 3) else
  if s.length < 12 + 16 * yx s 4 2 then (0, [], 2) else
  uW s (yx s 0 4) (yx s 4 2) 0 [⟨0, ((12 + 16 * yx s 4 2 : Nat) : Int)⟩] [] 0 []
end Go.Pn

set_option maxRecDepth 100000
namespace Go.Pn
open Go Go.Sl Go.Pu Go.Mo
theorem uP (m : Nat) : qU.m (m + 300) = .ok true := by kernel_rfl
theorem uO (K : Nat) (hK : 300 ≤ K) : qU.m K = .ok true := by
  obtain ⟨m, rfl⟩ : ∃ m, K = m + 300 := ⟨K - 300, by omega⟩
  exact uP m
structure Za (K : Nat) (l : List Tb) : Prop where
  len : l.length ≤ 1001
  tag : ∀ t ∈ l, t.Tag_.length ≤ 9223372036854775807 ∧ t.Tag_.length < K
  dat : ∀ t ∈ l, t.Data_.length ≤ 5000
  sz : jx l ≤ 108003
theorem ZX {K : Nat} {l : List Tb} (hK : 9223372036854775807 < K) (hb : ∀ t ∈ l, t.Tag_.length ≤ 9223372036854775807) (h : l.length ≤ 1001 ∧ vL l ≤ 105000 ∧ jx l ≤ 108003 ∧ ∀ t ∈ l, t.Data_.length ≤ 5000) : Za K l :=
  ⟨h.1, fun t ht => ⟨hb t ht, by have := hb t ht; omega⟩, h.2.2.2, h.2.2.1⟩
theorem Za.prog {K : Nat} {l : List Tb} (h : Za K l) (kind : Nat) (hk : kind < 4294967296) (hK : 2000000 < K) : qK.m K (kind : Int) l = .ok (yL kind l) :=
  uz K kind l hk (by have := h.len; omega) h.tag (by have := h.sz; omega) (fun t ht => by have := h.dat t ht; omega) (by omega)
theorem Za.ref {K : Nat} {l : List Tb} (h : Za K l) (kind : Nat) (hk : kind < 4294967296) (hK : 2000000 < K) : qd.m K (kind : Int) l = .ok (yL kind l) :=
  u0 K kind l hk (by have := h.len; omega) h.tag (by have := h.sz; omega) (fun t ht => by have := h.dat t ht; omega) (by omega)
theorem Q4 {a : Int} (h : (Lit.int .u32 a).wf = true) : ∃ n : Nat, a = (n : Int) ∧ n < 4294967296 := by
  have h2 : (0 : Int) ≤ a ∧ a < 4294967296 := by
    simp [Lit.wf, IntKind.min, IntKind.max, IntKind.signed, IntKind.bits] at h
    omega
  exact ⟨a.toNat, by omega, by omega⟩
theorem vf (K : Nat) (hK : 9223372036854775807 < K) (kind : Nat) (hk : kind < 4294967296) (l : List Tb) (hb : ∀ t ∈ l, t.Tag_.length ≤ 9223372036854775807) : qo.m K (kind : Int) l = .ok true := by
  unfold qo.m
  obtain ⟨b, hs, h⟩ := Zm K l (by omega)
  rw [hs, qQ.bind_ok]
  cases b with
  | false => rw [Bool.not_false, cond_true, uO K (by omega)]; rfl
  | true =>
    have hf := ZX hK hb (h rfl)
    have hl := hf.len
    rw [Bool.not_true, cond_false, xG (by rw [List.length_nil]; omega), qw, qS, List.nil_append, hf.prog kind hk (by omega), qQ.bind_ok, hf.ref kind hk (by omega)]
    generalize yL kind l = r
    obtain ⟨a, e⟩ := r
    dsimp only
    rw [qQ.bind_ok]
    dsimp only
    rw [beq_self_eq_true, beq_self_eq_true, Bool.true_and, cond_true, same K l (by omega) (by omega), qQ.bind_ok]
    unfold qo.j1 qo.j2
    rw [cond_true, uO K (by omega)]; rfl
theorem js (kind : Int) (l : List Tb) (hk : (Lit.int .u32 kind).wf = true) (hl : ∀ t ∈ l, t.Tag_.length ≤ maxLen ∧ t.Data_.length ≤ maxLen) (_ : l.length * 32 ≤ 140737488351232) : qo.m 10000000000000000000 kind l = .ok true := by
  obtain ⟨n, rfl, hn⟩ := Q4 hk
  exact vf _ (by decide) n hn l (fun t ht => by have := (hl t ht).1; simpa [maxLen] using this)
end Go.Pn

