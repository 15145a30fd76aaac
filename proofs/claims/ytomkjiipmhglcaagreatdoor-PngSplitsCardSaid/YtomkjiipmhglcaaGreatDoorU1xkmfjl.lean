/- Plain facts on the models: what they compute, and what holds of them; conditions: what each theorem states. -/
import Derived.Test.YtomkjiipmhglcaaGreatDoorMcjkkd
set_option linter.unusedVariables false
set_option linter.unusedSimpArgs false
namespace Go.Pu
open Go Go.Sl
theorem xy {x : Int} (h0 : -9223372036854775808 ≤ x) (h1 : x < 9223372036854775808) : qi x = x := by
  show (if (true && decide (x % 18446744073709551616 ≥ 9223372036854775808)) = true then x % 18446744073709551616 - 18446744073709551616 else x % 18446744073709551616) = x
  split <;> rename_i h <;> simp at h <;> omega
theorem JI (x : Int) : wr .u64 x = x % 18446744073709551616 := by
  simp [wr, IntKind.wrap, IntKind.bits, IntKind.signed]
theorem JH (x : Int) : wr .u32 x = x % 4294967296 := by
  simp [wr, IntKind.wrap, IntKind.bits, IntKind.signed]
theorem J9 (x : Int) : wr .u8 x = x % 256 := by
  simp [wr, IntKind.wrap, IntKind.bits, IntKind.signed]
theorem vc {x : Int} (h0 : 0 ≤ x) (h1 : x < 18446744073709551616) : wr .u64 x = x := by rw [JI]; omega
theorem jw {x : Int} (h0 : 0 ≤ x) (h1 : x < 4294967296) : wr .u32 x = x := by rw [JH]; omega
theorem XM {x : Int} (h0 : 0 ≤ x) (h1 : x < 256) : wr .u8 x = x := by rw [J9]; omega
theorem v4 {x : Int} (h0 : -9223372036854775808 ≤ x) (h1 : x < 9223372036854775808) : wr .i64 x = x := xy h0 h1
theorem u4 (n a : Nat) : BitVec.ofInt n (a : Int) = BitVec.ofNat n a := by
  apply BitVec.eq_of_toNat_eq
  simp
theorem YD {a b : Nat} (ha : a < 18446744073709551616) (hb : b < 18446744073709551616) : uk .u64 a b = ((a ||| b : Nat) : Int) := by
  show IntKind.u64.wrap ((BitVec.ofInt 64 (a : Int) ||| BitVec.ofInt 64 (b : Int)).toNat : Int) = _
  simp only [u4, BitVec.toNat_or, BitVec.toNat_ofNat]
  rw [Nat.mod_eq_of_lt (by simpa using ha), Nat.mod_eq_of_lt (by simpa using hb)]
  have : a ||| b < 2 ^ 64 := Nat.or_lt_two_pow (by simpa using ha) (by simpa using hb)
  exact vc (by omega) (by omega)
theorem Yf {a b : Nat} : vd (a : Int) (b : Int) = ((a % b : Nat) : Int) := by
  unfold vd
  rw [Int.ofNat_tmod]
theorem Z0 {k : IntKind} {a n : Nat} (hn : n ≤ k.bits) : zX k (a : Int) (n : Int) = ((a / 2 ^ n : Nat) : Int) := by
  unfold zX
  rw [Int.toNat_natCast, Nat.min_eq_left hn, Int.fdiv_eq_ediv_of_nonneg _ (Int.pow_nonneg (by decide))]
  simp
theorem Yg {a n : Nat} (hn : n ≤ 64) (h : a * 2 ^ n < 18446744073709551616) : z1 .u64 (a : Int) (n : Int) = ((a * 2 ^ n : Nat) : Int) := by
  unfold z1
  rw [Int.toNat_natCast, show min n IntKind.u64.bits = n from Nat.min_eq_left hn]
  have e : (a : Int) * 2 ^ n = ((a * 2 ^ n : Nat) : Int) := by push_cast; rfl
  rw [e]
  exact vc (by omega) (by omega)
end Go.Pu

namespace Go.Pu
open Go Go.Sl Go.Mo
def Yz (t : List UInt8) (i : Nat) : Bool := (t.getD (i / 8) 0).toNat.testBit (i % 8)
def Vi (t : List UInt8) (p : Nat) : Nat → Nat
  | 0 => 0
  | n + 1 => Vi t p n + (Yz t (p + n)).toNat * 2 ^ n
def v3 (t : List UInt8) (p n : Nat) : Except Int (Nat × Nat) := if p + n ≤ 8 * t.length then .ok (Vi t p n, p + n) else .error 2
end Go.Pu

namespace Go.Pu
open Go Go.Sl Go.Mo
end Go.Pu

namespace Go.Pu
open Go Go.Sl Go.Mo
def Ys (t : List UInt8) (p n : Nat) : Except Int (List UInt8 × Nat) :=
  if (p + 7) / 8 + n ≤ t.length then .ok ((t.drop ((p + 7) / 8)).take n, 8 * ((p + 7) / 8 + n)) else .error 2
end Go.Pu

namespace Go.Pu
open Go Go.Sl Go.Mo
def Vg (x : Int) : Prop := 0 ≤ x ∧ x ≤ 15
instance (x : Int) : Decidable (Vg x) := inferInstanceAs (Decidable (_ ∧ _))
def Vj (l : List Int) : Prop := l.length ≤ 320 ∧ ∀ x ∈ l, Vg x
instance (l : List Int) : Decidable (Vj l) := inferInstanceAs (Decidable (_ ∧ _))
def cs (l : List Int) : List Int := (List.range 16).map fun (j : Nat) => ((l.count (j : Int) : Nat) : Int)
def Vd (l : List Int) : List Int := (List.range 16).map fun (j : Nat) => if j = 0 then 0 else ((l.count (j : Int) : Nat) : Int)
theorem Ji {α : Type} [Inhabited α] {l : List α} {i : Nat} (h : i < l.length) : rd l (i : Int) = l[i] := by
  simp [rd, List.getD, List.getElem?_eq_getElem h]
theorem jF {i n : Nat} (h : i < n) : inb (i : Int) n = true := by simp only [inb, decide_eq_true_eq]; omega
end Go.Pu

namespace Go.Pu
open Go Go.Sl Go.Mo
def c0 (l : List Int) (n : Nat) : Nat := if n = 0 then 0 else l.count (n : Int)
def ks (l : List Int) : Nat → Nat
  | 0 => 0
  | i + 1 => ks l i + c0 l i * 2 ^ (15 - i)
def nz (l : List Int) : List Int := l.filter fun x => decide (0 < x)
def Xw (l : List Int) : Int := if Vj l then (if nz l = [] ∨ nz l = [1] ∨ ks l 16 = 32768 then 0 else 3) else 1
end Go.Pu

namespace Go.Pu
open Go Go.Sl Go.Mo
end Go.Pu

namespace Go.Pu
open Go Go.Sl Go.Mo
def Jp (l : List Int) : Nat → Nat
  | 0 => 0
  | n + 1 => 2 * (Jp l n + c0 l n)
def JJ (l : List Int) (i : Nat) : Nat := if 0 < l.getD i 0 then Jp l (l.getD i 0).toNat + (l.take i).count (l.getD i 0) else 0
def JU (l : List Int) : List Int := (List.range l.length).map fun (i : Nat) => (JJ l i : Int)
def VF (l : List Int) (n i : Nat) : List Int := (List.range l.length).map fun (j : Nat) =>
  if (0 < l.getD j 0 ∧ l.getD j 0 < (n : Int)) ∨ (l.getD j 0 = (n : Int) ∧ j < i) then (JJ l j : Int) else 0
end Go.Pu

namespace Go.Pu
open Go Go.Sl Go.Mo
def idx (l : List Int) (n i : Nat) : List Int := ((List.range i).filter fun j => decide (l.getD j 0 = (n : Int))).map fun (j : Nat) => (j : Int)
def Qf (l : List Int) : Nat → List Int
  | 0 => []
  | n + 1 => if n = 0 then [] else Qf l n ++ idx l n l.length
end Go.Pu

namespace Go.Pu
open Go Go.Sl Go.Mo
end Go.Pu

namespace Go.Pu
open Go Go.Sl Go.Mo
end Go.Pu

namespace Go.Pu
open Go Go.Sl Go.Mo
def Xr (l : List Int) (t : List UInt8) : Nat → Nat → Nat → Nat → Except Int (Nat × Nat)
  | 0, _, _, _ => .error 3
  | k + 1, n, v, p =>
    if (Qf l (n + 1)).length < (Qf l 16).length then
      if p + 1 ≤ 8 * t.length then
        if 2 * v + (Yz t p).toNat < Jp l (n + 1) + c0 l (n + 1) then .ok (((Qf l 16).getD ((Qf l (n + 1)).length + (2 * v + (Yz t p).toNat) - Jp l (n + 1)) 0).toNat, p + 1)
        else Xr l t k (n + 1) (2 * v + (Yz t p).toNat) (p + 1)
      else .error 2
    else .error 3
def Yt (l : List Int) (t : List UInt8) (p : Nat) : Except Int (Nat × Nat) := Xr l t 16 0 0 p
end Go.Pu

namespace Go.Pu
open Go Go.Sl Go.Mo
def J3 (l : List Int) (n v i : Nat) : Prop := l.getD i 0 = (n : Int) ∧ 0 < n ∧ JJ l i = v
def JA (l : List Int) (n v i : Nat) : Prop := (n : Int) < l.getD i 0 ∧ JJ l i / 2 ^ ((l.getD i 0).toNat - n) = v
instance (l : List Int) (n v i : Nat) : Decidable (J3 l n v i) := inferInstanceAs (Decidable (_ ∧ _))
instance (l : List Int) (n v i : Nat) : Decidable (JA l n v i) := inferInstanceAs (Decidable (_ ∧ _))
end Go.Pu

namespace Go.Pu
open Go Go.Sl Go.Mo
def Vf (l : List Int) (t : List UInt8) (n v p : Nat) : Except Int (Nat × Nat) :=
  if 0 < n ∧ v < Jp l n + c0 l n then .ok (((Qf l 16).getD ((Qf l n).length + v - Jp l n) 0).toNat, p) else Xr l t (16 - n) n v p
end Go.Pu

namespace Go.Pu
open Go Go.Sl Go.Mo
theorem Ye {i : Int} {n : Nat} (h0 : 0 ≤ i) (h1 : i < (n : Int)) : inb i n = true := jE.2 ⟨h0, h1⟩
theorem jY {lo hi : Int} {n : Nat} (h0 : 0 ≤ lo) (h1 : lo ≤ hi) (h2 : hi ≤ (n : Int)) : subok lo hi n = true := vv.2 ⟨h0, h1, h2⟩
theorem ZD {n k : Nat} (h : n * k ≤ 140737488355328) : room n k = true := decide_eq_true h
theorem Zp {n : Nat} (h : n ≤ 9223372036854775807) : uV n = true := decide_eq_true h
theorem X8 {x : Int} (h : 0 ≤ x) : decide (0 ≤ x) = true := decide_eq_true h
section
variable {α : Type}
theorem xu {p : Prop} [Decidable p] (a b : α) : cond (decide p) a b = if p then a else b := by
  by_cases h : p <;> simp [h]
theorem ZQ {x y : Int} (a b : α) : cond (x == y) a b = if x = y then a else b := by
  by_cases h : x = y
  · rw [if_pos h, beq_iff_eq.2 h]; rfl
  · rw [if_neg h, beq_eq_false_iff_ne.2 h]; rfl
theorem ZR {x y : Int} (a b : α) : cond (x != y) a b = if x = y then b else a := by
  by_cases h : x = y
  · rw [if_pos h, bne_eq_false_iff_eq.2 h]; rfl
  · rw [if_neg h, bne_iff_ne.2 h]; rfl
theorem ZS (x : Bool) (a b : α) : cond (!x) a b = cond x b a := by cases x <;> rfl
theorem ZP (x y : Bool) (a b : α) : cond (x && y) a b = cond x (cond y a b) b := by cases x <;> rfl
theorem Zn (x y : Bool) (a b : α) : cond (x || y) a b = cond x a (cond y a b) := by cases x <;> rfl
end
end Go.Pu

namespace Go.Pu
open Go Go.Sl Go.Mo
end Go.Pu

set_option maxRecDepth 100000
namespace Go.Pu
open Go Go.Sl Go.Mo
def XT : Nat := 3988292384
def b1 (x : Nat) : Nat := if x % 2 = 1 then (x / 2) ^^^ XT else x / 2
theorem XA {x : Nat} (h : x < 4294967296) : b1 x < 4294967296 := by
  unfold b1
  split
  · exact Nat.xor_lt_two_pow (n := 32) (show x / 2 < 2 ^ 32 by omega) (show XT < 2 ^ 32 by decide)
  · omega
theorem QP (x y : Nat) : (x ^^^ y) / 2 = (x / 2) ^^^ (y / 2) := by
  have := Nat.shiftRight_xor_distrib (a := x) (b := y) (i := 1)
  simpa [Nat.shiftRight_eq_div_pow] using this
theorem Xg (x y : Nat) : (x ^^^ y) % 2 = (x % 2 + y % 2) % 2 := by
  have h := Nat.xor_mod_two_pow (a := x) (b := y) (n := 1)
  rw [Nat.pow_one] at h
  rw [h]
  rcases Nat.mod_two_eq_zero_or_one x with h1 | h1 <;> rcases Nat.mod_two_eq_zero_or_one y with h2 | h2 <;> rw [h1, h2] <;> rfl
theorem Y9 (x y : Nat) : b1 (x ^^^ y) = b1 x ^^^ b1 y := by
  unfold b1
  rw [QP, Xg]
  rcases Nat.mod_two_eq_zero_or_one x with h1 | h1 <;> rcases Nat.mod_two_eq_zero_or_one y with h2 | h2 <;> rw [h1, h2]
  · simp
  · simp [Nat.xor_assoc]
  · simp only [if_true, Nat.reduceAdd, Nat.reduceMod, Nat.zero_ne_one, if_false]
    rw [Nat.xor_assoc, Nat.xor_comm (y / 2), ← Nat.xor_assoc]
  · simp only [if_true, Nat.reduceAdd, Nat.reduceMod, Nat.zero_ne_one, if_false]
    rw [Nat.xor_assoc, Nat.xor_comm XT, Nat.xor_assoc, Nat.xor_self, Nat.xor_zero]
theorem Qs (y : Nat) : b1 (2 * y) = y := by unfold b1; rw [if_neg (by omega)]; omega
def b4 (x : Nat) : Nat := b1 (b1 (b1 (b1 x)))
theorem X4 : ∀ l : Nat, l < 16 → rd tab_sums_half (l : Int) = ((b4 l : Nat) : Int) := by decide
theorem YT (c : Nat) : c = (16 * (c / 16)) ^^^ (c % 16) := by
  have h := Nat.two_pow_add_eq_or_of_lt (i := 4) (b := c % 16) (by omega) (c / 16)
  have h2 : 16 * (c / 16) ^^^ c % 16 = 16 * (c / 16) ||| c % 16 := by
    apply Nat.eq_of_testBit_eq
    intro i
    have h16 : (16 * (c / 16)).testBit i = (decide (4 ≤ i) && (c / 16).testBit (i - 4)) := by
      rw [show 16 * (c / 16) = 2 ^ 4 * (c / 16) from rfl, Nat.testBit_two_pow_mul]
    rw [Nat.testBit_xor, Nat.testBit_or, h16]
    by_cases hi : 4 ≤ i
    · have : (c % 16).testBit i = false := by
        rw [show 16 = 2 ^ 4 from rfl, Nat.testBit_mod_two_pow]; simp; omega
      rw [this]; simp
    · simp [hi]
  rw [h2, show 16 * (c / 16) ||| c % 16 = 2 ^ 4 * (c / 16) ||| c % 16 from rfl, ← h]
  omega
theorem XB (c : Nat) : b4 c = (c / 16) ^^^ b4 (c % 16) := by
  have hx : ∀ x y, b4 (x ^^^ y) = b4 x ^^^ b4 y := fun x y => by unfold b4; simp only [Y9]
  have h16 : ∀ y, b4 (16 * y) = y := fun y => by
    unfold b4
    rw [show 16 * y = 2 * (2 * (2 * (2 * y))) from by omega, Qs, Qs, Qs, Qs]
  conv => lhs; rw [YT c, hx, h16]
def b8 (r b : Nat) : Nat := b4 (b4 (r ^^^ b))
def ZT : List UInt8 → Nat → Nat
  | [], r => r
  | x :: s, r => ZT s (b8 r x.toNat)
def Q8 (n : Nat) : Nat := n ^^^ 4294967295
def X7 (c : Nat) (s : List UInt8) : Nat := Q8 (ZT s (Q8 c))
theorem Q1 {x : Nat} (h : x < 4294967296) : b4 x < 4294967296 := XA (XA (XA (XA h)))
theorem QO {a b : Nat} (ha : a < 4294967296) (hb : b < 4294967296) : a ^^^ b < 4294967296 := Nat.xor_lt_two_pow (n := 32) ha hb
theorem YU {r b : Nat} (hr : r < 4294967296) (hb : b < 256) : b8 r b < 4294967296 := Q1 (Q1 (QO hr (by omega)))
theorem ZU : ∀ (s : List UInt8) {r : Nat}, r < 4294967296 → ZT s r < 4294967296
  | [], r, h => h
  | x :: s, r, h => ZU s (YU h x.toNat_lt)
theorem YC {c : Nat} (h : c < 4294967296) (s : List UInt8) : X7 c s < 4294967296 := QO (ZU s (QO h (by decide))) (by decide)
theorem jU {a b : Nat} (ha : a < 4294967296) (hb : b < 4294967296) : jG .u32 (a : Int) (b : Int) = ((a ^^^ b : Nat) : Int) := by
  show IntKind.u32.wrap ((BitVec.ofInt 32 (a : Int) ^^^ BitVec.ofInt 32 (b : Int)).toNat : Int) = _
  simp only [u4, BitVec.toNat_xor, BitVec.toNat_ofNat]
  rw [Nat.mod_eq_of_lt (by omega), Nat.mod_eq_of_lt (by omega)]
  have := QO ha hb
  exact jw (by omega) (by omega)
theorem XF {a : Nat} (ha : a < 4294967296) : xi .u32 (a : Int) 15 = ((a % 16 : Nat) : Int) := by
  show IntKind.u32.wrap ((BitVec.ofInt 32 (a : Int) &&& BitVec.ofInt 32 ((15 : Nat) : Int)).toNat : Int) = _
  simp only [u4, BitVec.toNat_and, BitVec.toNat_ofNat]
  rw [Nat.mod_eq_of_lt (by omega), Nat.mod_eq_of_lt (by decide : 15 < 2 ^ 32), show 15 = 2 ^ 4 - 1 from rfl, Nat.and_two_pow_sub_one_eq_mod]
  exact jw (by omega) (by omega)
theorem ZZ {n : Nat} (h : n < 4294967296) : vW .u32 (n : Int) = ((Q8 n : Nat) : Int) := by
  have := jU (a := 4294967295) (b := n) (by decide) h
  unfold Q8
  rw [Nat.xor_comm, ← this]; rfl
theorem ZA (K : Nat) (s : List UInt8) (hs : s.length < 140737488355328) : ∀ (k : Nat) (D T : List UInt8) (r : Nat), D ++ T = s → T.length < k → r < 4294967296 →
    xY.l1 K s k (r : Int) (D.length : Int) = .ok ((Q8 (ZT T r) : Nat) : Int) := by
  intro k
  induction k with
  | zero => intro D T r _ h; omega
  | succ k ih =>
    intro D T r h1 hk hr
    have hlen : D.length + T.length = s.length := by rw [← h1]; simp
    rw [xY.l1, xu]
    cases T with
    | nil =>
      rw [if_neg (by simp only [List.length_nil] at hlen; omega), xP, ZZ hr]; rfl
    | cons x T =>
      simp only [List.length_cons] at hlen hk
      have e1 : rd s (D.length : Int) = x := by rw [← h1]; simp [rd]
      have e3 : qi ((D.length : Int) + 1) = ((D ++ [x]).length : Int) := by rw [xy (by omega) (by omega)]; simp
      have hx := x.toNat_lt
      have h0 := QO hr (show x.toNat < 4294967296 by omega)
      rw [if_pos (by omega), jF (by omega), xz, e1, jw (by omega) (by omega), jU hr (by omega), xP, XF h0, jF (by omega), xz,
        show zX .u32 ((r ^^^ x.toNat : Nat) : Int) 4 = (((r ^^^ x.toNat) / 16 : Nat) : Int) from Z0 (n := 4) (by decide), X4 _ (by omega), jU (by omega) (Q1 (by omega)), ← XB, xP]
      have h4 := Q1 h0
      rw [XF h4, jF (by omega), xz,
        show zX .u32 ((b4 (r ^^^ x.toNat) : Nat) : Int) 4 = ((b4 (r ^^^ x.toNat) / 16 : Nat) : Int) from Z0 (n := 4) (by decide), X4 _ (by omega), jU (by omega) (Q1 (by omega)), ← XB, xP, e3]
      exact ih (D ++ [x]) T _ (by rw [← h1]; simp) (by omega) (Q1 h4)
theorem XU (K c : Nat) (s : List UInt8) (hc : c < 4294967296) (hs : s.length < 140737488355328) (hK : s.length < K) : xY.m K (c : Int) s = .ok ((X7 c s : Nat) : Int) := by
  unfold xY.m
  rw [ZZ hc, xP]
  exact ZA K s hs K [] s _ rfl hK (QO hc (by decide))
theorem YH (K : Nat) (s : List UInt8) (hs : s.length < 140737488355328) (hK : s.length < K) : vw.m K s = .ok ((X7 0 s : Nat) : Int) := by
  unfold vw.m
  have := XU K 0 s (by decide) hs hK
  rw [show ((0 : Nat) : Int) = 0 from rfl] at this
  rw [this]; rfl
def bN : Nat → Nat → Nat
  | 0, x => x
  | n + 1, x => bN n (b1 x)
theorem Yr (K : Nat) (g : Int → Int → q7 Int) (i : Nat) (hi : i < 140737488355328) : ∀ (j k q r b : Nat), q + j = 8 → j < k → r < 4294967296 → b < 2 ^ j →
    zh.l2 K g (i : Int) k (r : Int) (b : Int) (q : Int) = g ((bN j (r ^^^ b) : Nat) : Int) ((i + 1 : Nat) : Int) := by
  intro j
  induction j with
  | zero =>
    intro k q r b hq hk hr hb
    obtain ⟨k, rfl⟩ : ∃ m, k = m + 1 := ⟨k - 1, by omega⟩
    have : b = 0 := by omega
    subst this
    have e : qi ((i : Int) + 1) = ((i + 1 : Nat) : Int) := by rw [xy (by omega) (by omega)]; omega
    rw [zh.l2, xu, if_neg (by omega), xP, e, Nat.xor_zero]; rfl
  | succ j ih =>
    intro k q r b hq hk hr hb
    obtain ⟨k, rfl⟩ : ∃ m, k = m + 1 := ⟨k - 1, by omega⟩
    rw [Nat.pow_succ] at hb
    have hp : 2 ^ j ≤ 2 ^ 7 := Nat.pow_le_pow_right (by decide) (by omega)
    have e : qi ((q : Int) + 1) = ((q + 1 : Nat) : Int) := by rw [xy (by omega) (by omega)]; omega
    have m2 : ∀ x : Nat, vd (x : Int) 2 = ((x % 2 : Nat) : Int) := fun x => Yf (b := 2)
    have q2 : ∀ x : Nat, x < 4294967296 → x5 .u32 (x : Int) 2 = ((x / 2 : Nat) : Int) := by
      intro x hx
      unfold x5
      have h1 : (x : Int).tdiv 2 = ((x / 2 : Nat) : Int) := by rw [show (2 : Int) = ((2 : Nat) : Int) from rfl, Int.ofNat_tdiv]
      rw [h1]
      exact jw (by omega) (by omega)
    rw [zh.l2, xu, if_pos (by omega), m2, m2, q2 r hr, q2 b (by omega), xP, xP, xP]
    have hx : (r ^^^ b) % 2 = (r % 2 + b % 2) % 2 := Xg r b
    by_cases hne : r % 2 = b % 2
    · have : (((r % 2 : Nat) : Int) != ((b % 2 : Nat) : Int)) = false := by rw [hne]; exact bne_self_eq_false' ..
      have hb1 : b1 (r ^^^ b) = (r / 2) ^^^ (b / 2) := by unfold b1; rw [if_neg (by omega), QP]
      rw [this, cond_false, xP, e, ih k (q + 1) (r / 2) (b / 2) (by omega) (by omega) (by omega) (by omega), bN, hb1]
    · have : (((r % 2 : Nat) : Int) != ((b % 2 : Nat) : Int)) = true := bne_iff_ne.2 (by omega)
      have hb1 : b1 (r ^^^ b) = ((r / 2) ^^^ XT) ^^^ (b / 2) := by
        unfold b1
        rw [if_pos (by omega), QP, Nat.xor_assoc, Nat.xor_comm (b / 2), ← Nat.xor_assoc]
      have hpx := jU (a := r / 2) (b := XT) (by omega) (by decide)
      rw [show ((XT : Nat) : Int) = 3988292384 from rfl] at hpx
      rw [this, cond_true, hpx, xP, xP, e, ih k (q + 1) _ (b / 2) (by omega) (by omega) (QO (by omega) (by decide)) (by omega), bN, hb1]
theorem Z8 (K : Nat) (hK : 8 < K) (s : List UInt8) (hs : s.length < 140737488355328) : ∀ (k : Nat) (D T : List UInt8) (r : Nat), D ++ T = s → T.length < k → r < 4294967296 →
    zh.l1 K s k (r : Int) (D.length : Int) = .ok ((Q8 (ZT T r) : Nat) : Int) := by
  intro k
  induction k with
  | zero => intro D T r _ h; omega
  | succ k ih =>
    intro D T r h1 hk hr
    have hlen : D.length + T.length = s.length := by rw [← h1]; simp
    rw [zh.l1, xu]
    cases T with
    | nil =>
      have hpx := jU (a := r) (b := 4294967295) hr (by decide)
      rw [show ((4294967295 : Nat) : Int) = 4294967295 from rfl] at hpx
      rw [if_neg (by simp only [List.length_nil] at hlen; omega), hpx, xP]; rfl
    | cons x T =>
      simp only [List.length_cons] at hlen hk
      have e1 : rd s (D.length : Int) = x := by rw [← h1]; simp [rd]
      have hx := x.toNat_lt
      have hB := Yr K (zh.l1 K s k) D.length (by omega) 8 K 0 r x.toNat rfl hK hr (by omega)
      rw [show ((0 : Nat) : Int) = 0 from rfl] at hB
      rw [if_pos (by omega), jF (by omega), xz, e1, jw (by omega) (by omega), xP, hB]
      have := ih (D ++ [x]) T (b8 r x.toNat) (by rw [← h1]; simp) (by omega) (YU hr hx)
      rw [show (D ++ [x]).length = D.length + 1 from by simp] at this
      exact this
theorem Jj (K : Nat) (s : List UInt8) (hs : s.length < 140737488355328) (hK : s.length < K) (hK2 : 8 < K) : yn.m K s = .ok ((X7 0 s : Nat) : Int) := by
  unfold yn.m zh.m
  have hpx := jU (a := 0) (b := 4294967295) (by decide) (by decide)
  rw [show ((4294967295 : Nat) : Int) = 4294967295 from rfl, show ((0 : Nat) : Int) = 0 from rfl] at hpx
  rw [hpx, xP]
  have := Z8 K hK2 s hs K [] s (0 ^^^ 4294967295) rfl hK (by decide)
  rw [show (([] : List UInt8).length : Int) = 0 from rfl] at this
  rw [this]; rfl
end Go.Pu

namespace Go.Pu
open Go Go.Sl Go.Mo
def Vc {α β : Type} (f : β → α) : Except Int β → q7 α
  | .ok b => .ok (f b)
  | .error e => if e = -1 then .fail else .pan (.iface x8 (.agg ⟨[.int .i64 e]⟩))
def VI (x : Nat × Nat) : Int × Int := ((x.1 : Int), (x.2 : Int))
end Go.Pu

namespace Go.Pu
open Go Go.Sl Go.Mo
def yI (s : List UInt8) (i : Nat) : Nat := (s.getD i 0).toNat
theorem uy (s : List UInt8) (i : Nat) : yI s i < 256 := (s.getD i 0).toNat_lt
theorem YI {s : List UInt8} {i : Nat} : ((rd s (i : Int)).toNat : Int) = (yI s i : Int) := by
  simp only [rd, yI, Int.toNat_natCast]; rfl
def YN (t : List UInt8) (L p : Nat) (out : List Int) : Except Int (Nat × List Int) :=
  match Ys t p 4 with
  | .error e => .error e
  | .ok (h, q) =>
    if yI h 2 + 256 * yI h 3 = 65535 - (yI h 0 + 256 * yI h 1) then
      match Ys t q (yI h 0 + 256 * yI h 1) with
      | .error e => .error e
      | .ok (s, q') => if out.length + (yI h 0 + 256 * yI h 1) ≤ L then .ok (q', out ++ s.map X1) else .error 11
    else .error 3
end Go.Pu
namespace Go.Pu
open Go Go.Sl Go.Mo
end Go.Pu

namespace Go.Pu
open Go Go.Sl Go.Mo
def Ve (m : q7 (Int × Int × List Int)) (s : Except Int (Nat × List Int)) : Prop :=
  match s with
  | .ok (q, out) => m = .ok (0, (q : Int), out)
  | .error e => if e = -1 then m = .fail else ∃ p out, m = .ok (e, p, out) ∧ e ≠ 0
end Go.Pu

namespace Go.Pu
open Go Go.Sl Go.Mo
def lenT : List (Nat × Nat) := tab_inflate_lengths.map fun r => (r.from_.toNat, r.bits_.toNat)
def dstT : List (Nat × Nat) := tab_inflate_distances.map fun r => (r.from_.toNat, r.bits_.toNat)
def lenOf (x : Nat) : Nat × Nat := lenT.getD (x - 257) (0, 0)
def Ya (x : Nat) : Nat × Nat := dstT.getD x (0, 0)
def YW : Nat → Nat → List Int → List Int
  | 0, _, out => out
  | n + 1, b, out => YW n b (out ++ [out.getD (out.length - b) 0])
def Jl (t : List UInt8) (L : Nat) (dl : List Int) (x p : Nat) (out : List Int) : Except Int (Nat × List Int) :=
  if x ≤ 285 then
    match v3 t p (lenOf x).2 with
    | .error e => .error e
    | .ok (v, p1) =>
      match Yt dl t p1 with
      | .error e => .error e
      | .ok (d, p2) =>
        if d ≤ 29 then
          match v3 t p2 (Ya d).2 with
          | .error e => .error e
          | .ok (u, p3) =>
            if (Ya d).1 + u ≤ out.length then
              if out.length + ((lenOf x).1 + v) ≤ L then .ok (p3, YW ((lenOf x).1 + v) ((Ya d).1 + u) out) else .error 11
            else .error 3
        else .error 3
  else .error 3
def XL (t : List UInt8) (L : Nat) (ll dl : List Int) : Nat → Nat → List Int → Except Int (Nat × List Int)
  | 0, _, _ => .error (-1)
  | k + 1, p, out =>
    match Yt ll t p with
    | .error e => .error e
    | .ok (x, q) =>
      if x = 256 then .ok (q, out)
      else if x < 256 then (if out.length < L then XL t L ll dl k q (out ++ [(x : Int)]) else .error 11)
      else match Jl t L dl x q out with
        | .error e => .error e
        | .ok (q', out') => XL t L ll dl k q' out'
end Go.Pu

namespace Go.Pu
open Go Go.Sl Go.Mo
def VN {α : Type} (e : Int) : q7 α := .pan (.iface x8 (.agg ⟨[.int .i64 e]⟩))
def Vk (x : Nat × List Int) : Int × List Int := ((x.1 : Int), x.2)
end Go.Pu

namespace Go.Pu
open Go Go.Sl Go.Mo
def VM (r : q7 (Int × Int)) (a b : Nat) : Bool := match r with
  | .ok (x, y) => x == (a : Int) && y == (b : Int)
  | _ => false
end Go.Pu

namespace Go.Pu
open Go Go.Sl Go.Mo
def J2 : List Int := (List.range 288).map fun i => if i < 144 ∨ 279 < i then 8 else if i < 256 then 9 else 7
def J1 : List Int := List.replicate 32 5
def Yu (t : List UInt8) (c : List Int) (n : Nat) : Nat → Nat → List Int → Except Int (Nat × List Int)
  | 0, _, _ => .error (-1)
  | k + 1, p, out =>
    if out.length < n then
      match Yt c t p with
      | .error e => .error e
      | .ok (x, q) =>
        if x < 16 then Yu t c n k q (out ++ [(x : Int)])
        else if x = 16 then
          if out.length = 0 then .error 3
          else match v3 t q 2 with
            | .error e => .error e
            | .ok (v, q') => if out.length + (3 + v) ≤ n then Yu t c n k q' (out ++ List.replicate (3 + v) (out.getD (out.length - 1) 0)) else .error 3
        else if x = 17 then
          match v3 t q 3 with
          | .error e => .error e
          | .ok (v, q') => if out.length + (3 + v) ≤ n then Yu t c n k q' (out ++ List.replicate (3 + v) 0) else .error 3
        else
          match v3 t q 7 with
          | .error e => .error e
          | .ok (v, q') => if out.length + (11 + v) ≤ n then Yu t c n k q' (out ++ List.replicate (11 + v) 0) else .error 3
    else .ok (p, out)
def Vl (x : Nat × List Int) : List Int × Int := (x.2, (x.1 : Int))
end Go.Pu

namespace Go.Pu
open Go Go.Sl Go.Mo
def JW (m : q7 (List Int × Int × Int)) (s : Except Int (Nat × List Int)) : Prop :=
  match s with
  | .ok (q, out) => m = .ok (out, 0, (q : Int))
  | .error e => if e = -1 then m = .fail else ∃ p, m = .ok ([], e, p) ∧ e ≠ 0
def ordT : List Nat := [16, 17, 18, 0, 8, 7, 9, 6, 10, 5, 11, 4, 12, 3, 13, 2, 14, 1, 15]
def Y3 (t : List UInt8) : Nat → Nat → Nat → List Int → Except Int (Nat × List Int)
  | 0, _, p, l => .ok (p, l)
  | m + 1, i, p, l =>
    match v3 t p 3 with
    | .error e => .error e
    | .ok (v, q) => Y3 t m (i + 1) q (l.set (ordT.getD i 0) (v : Int))
def Y6 : List Int := List.replicate 19 0
def J6 (t : List UInt8) (K p : Nat) : Except Int (Nat × List Int × List Int) :=
  match v3 t p 5 with
  | .error e => .error e
  | .ok (a, p1) =>
    match v3 t p1 5 with
    | .error e => .error e
    | .ok (b, p2) =>
      match v3 t p2 4 with
      | .error e => .error e
      | .ok (c, p3) =>
        if a ≤ 29 ∧ b ≤ 29 then
          match Y3 t (4 + c) 0 p3 Y6 with
          | .error e => .error e
          | .ok (p4, l) =>
            if l ≠ Y6 ∧ Xw l = 0 then
              match Yu t l (258 + a + b) K p4 [] with
              | .error e => .error e
              | .ok (p5, all) =>
                if all.getD 256 0 ≠ 0 ∧ Xw (all.take (257 + a)) = 0 ∧ Xw (all.drop (257 + a)) = 0 then .ok (p5, all.take (257 + a), all.drop (257 + a)) else .error 3
            else .error 3
        else .error 3
end Go.Pu

namespace Go.Pu
open Go Go.Sl Go.Mo
def Vo (l : List Int) : qF := ⟨Vd l, Qf l 16⟩
def Vs (x : Nat × List Int × List Int) : Option qF × Option qF × Int := (some (Vo x.2.1), some (Vo x.2.2), (x.1 : Int))
theorem YS {α : Type} (l : List α) (n m : Nat) : sub l (n : Int) (m : Int) = (l.drop n).take (m - n) := by
  simp only [sub, Int.toNat_natCast]
def VE : List Int := [16, 17, 18, 0, 8, 7, 9, 6, 10, 5, 11, 4, 12, 3, 13, 2, 14, 1, 15]
end Go.Pu

namespace Go.Pu
open Go Go.Sl Go.Mo
def JC (t : List UInt8) (L K p : Nat) (out : List Int) : Except Int (Nat × List Int) :=
  match J6 t K p with
  | .error e => .error e
  | .ok (q, a, b) => XL t L a b K q out
end Go.Pu

namespace Go.Pu
open Go Go.Sl Go.Mo
def JD (t : List UInt8) (L K : Nat) (kind p : Nat) (out : List Int) : Except Int (Nat × List Int) :=
  if kind = 0 then YN t L p out
  else if kind = 1 then XL t L J2 J1 K p out
  else if kind = 2 then JC t L K p out
  else .error 3
def Jk (t : List UInt8) (L K p : Nat) (out : List Int) : Except Int (Bool × Nat × List Int) :=
  match v3 t p 1 with
  | .error e => .error e
  | .ok (b, p1) =>
    match v3 t p1 2 with
    | .error e => .error e
    | .ok (kind, p2) =>
      match JD t L K kind p2 out with
      | .error e => .error e
      | .ok (q, o) => .ok (b == 1, q, o)
def Y2 (t : List UInt8) (L K : Nat) : Nat → Nat → List Int → Except Int (Nat × List Int)
  | 0, _, _ => .error (-1)
  | k + 1, p, out =>
    match Jk t L K p out with
    | .error e => .error e
    | .ok (last, q, o) => if last then .ok (q, o) else Y2 t L K k q o
def Vq (x : Bool × Nat × List Int) : Bool × Int × List Int := (x.1, (x.2.1 : Int), x.2.2)
def Va (K : Nat) (t : List UInt8) (limit : Int) : List UInt8 × Int × Int :=
  if limit < 0 ∨ 1073741824 < limit then ([], 0, 1)
  else match Y2 t limit.toNat K K 0 [] with
    | .ok (q, out) => (out.map jo, (((q + 7) / 8 : Nat) : Int), 0)
    | .error e => ([], 0, e)
def JV (m : q7 (Bool × Int × Int × List Int)) (s : Except Int (Bool × Nat × List Int)) : Prop :=
  match s with
  | .ok (b, q, out) => m = .ok (b, 0, (q : Int), out)
  | .error e => if e = -1 then m = .fail else ∃ b p out, m = .ok (b, e, p, out) ∧ e ≠ 0
end Go.Pu

namespace Go.Pu
open Go Go.Sl Go.Mo
def JK (w : Nat) : Prop := w = 1 ∨ w = 2 ∨ w = 4 ∨ w = 8
theorem Z6 (K : Nat) (w : Nat) (hw : JK w) : jv.m K (w : Int) = .ok true := by
  rcases hw with rfl | rfl | rfl | rfl <;> rfl
def Qg (s : List UInt8) (at_ : Nat) : Nat → Nat
  | 0 => 0
  | w + 1 => Qg s at_ w * 256 + yI s (at_ + w)
theorem Qw (s : List UInt8) (at_ : Nat) : ∀ w, Qg s at_ w < 256 ^ w
  | 0 => by simp [Qg]
  | w + 1 => by
    have := Qw s at_ w
    have h2 := uy s (at_ + w)
    rw [Qg, Nat.pow_succ]; omega
def jy (s : List UInt8) (w : Nat) : Nat → Nat
  | 0 => 0
  | i + 1 => jy s w i + yI s (w - 1 - i) * 2 ^ (8 * i)
theorem Zc (s : List UInt8) (w : Nat) : ∀ i, jy s w i < 2 ^ (8 * i)
  | 0 => by simp [jy]
  | i + 1 => by
    have := Zc s w i
    have h2 := uy s (w - 1 - i)
    have h3 : yI s (w - 1 - i) * 2 ^ (8 * i) ≤ 255 * 2 ^ (8 * i) := Nat.mul_le_mul_right _ (by omega)
    rw [jy, show 8 * (i + 1) = 8 * i + 8 by omega, Nat.pow_add]; omega
theorem Zb (s : List UInt8) (w : Nat) : ∀ i, i ≤ w → Qg s 0 w = Qg s 0 (w - i) * 2 ^ (8 * i) + jy s w i
  | 0, _ => by simp [jy]
  | i + 1, h => by
    rw [Zb s w i (by omega), jy]
    have e : w - i = (w - (i + 1)) + 1 := by omega
    rw [e, Qg, Nat.zero_add, show w - 1 - i = w - (i + 1) by omega, show 8 * (i + 1) = 8 + 8 * i by omega, Nat.pow_add, Nat.add_mul, Nat.mul_assoc, show (2 : Nat) ^ 8 = 256 from rfl]
    omega
theorem Xl (s : List UInt8) (at_ w i : Nat) (h : i < w) : yI ((s.drop at_).take w) i = yI s (at_ + i) := by
  unfold yI
  rw [List.getD_eq_getElem?_getD, List.getD_eq_getElem?_getD, List.getElem?_take, if_pos h, List.getElem?_drop]
theorem ZM (s : List UInt8) (at_ w : Nat) : ∀ i, i ≤ w → Qg ((s.drop at_).take w) 0 i = Qg s at_ i
  | 0, _ => rfl
  | i + 1, h => by rw [Qg, Qg, ZM s at_ w i (by omega), Nat.zero_add, Xl s at_ w i (by omega)]
theorem Yw (K : Nat) (v : List UInt8) (w : Nat) (hw : w ≤ 8) (hv : v.length = w) : ∀ (j k i : Nat), i + j = w → j < k →
    zi.l1 K (w : Int) v k (jy v w i : Int) (i : Int) = .ok ((Qg v 0 w : Int), 0) := by
  intro j
  induction j with
  | zero =>
    intro k i hi hk
    obtain ⟨k, rfl⟩ : ∃ m, k = m + 1 := ⟨k - 1, by omega⟩
    rw [zi.l1]
    have := Zb v w w (Nat.le_refl _)
    rw [Nat.sub_self] at this
    have e : jy v w i = Qg v 0 w := by
      rw [show i = w by omega, this]; simp [Qg]
    simp (disch := omega) only [q7.bind_ok, q7.bind_pan, xz, xP, Xf, cond_true, cond_false, xu, ZQ, ZR, ZS, ZP, Zn, xy, XM, jw, vc, v4, Ye, jY, ZD, Zp, X8, Int.toNat_natCast, if_neg, e]
  | succ j ih =>
    intro k i hi hk
    obtain ⟨k, rfl⟩ : ∃ m, k = m + 1 := ⟨k - 1, by omega⟩
    rw [zi.l1]
    unfold yp.m
    have e1 : (w : Int) - 1 - (i : Int) = ((w - 1 - i : Nat) : Int) := by omega
    have e2 : (8 : Int) * (i : Int) = ((8 * i : Nat) : Int) := by omega
    have e6 : (i : Int) + 1 = ((i + 1 : Nat) : Int) := by push_cast; rfl
    have hb := uy v (w - 1 - i)
    simp (disch := omega) only [q7.bind_ok, q7.bind_pan, xz, xP, Xf, cond_true, cond_false, xu, ZQ, ZR, ZS, ZP, Zn, xy, XM, jw, vc, v4, Ye, jY, ZD, Zp, X8, Int.toNat_natCast, if_pos, e1, e2, e6, YI]
    have hpow : 2 ^ (8 * i) ≤ 2 ^ 56 := Nat.pow_le_pow_right (by decide) (by omega)
    have hm : yI v (w - 1 - i) * 2 ^ (8 * i) ≤ 255 * 2 ^ (8 * i) := Nat.mul_le_mul_right _ (by omega)
    have hl := Zc v w i
    rw [Yg (by omega) (by omega), YD (by omega) (by omega)]
    have e3 : jy v w i ||| yI v (w - 1 - i) * 2 ^ (8 * i) = jy v w (i + 1) := by
      rw [Nat.or_comm, Nat.mul_comm, ← Nat.two_pow_add_eq_or_of_lt hl, jy, Nat.mul_comm]; omega
    rw [e3]
    exact ih k (i + 1) (by omega) (by omega)
def Xe (s : List UInt8) (at_ w : Nat) : Nat × Int := if at_ + w ≤ s.length then (Qg s at_ w, 0) else (0, 2)
theorem ZB (K : Nat) (s : List UInt8) (base : Int) (at_ n : Nat) (hs : s.length < 140737488355328) (ha : at_ < 9223372036854775808) (hn : n < 9223372036854775808) (hb0 : 0 ≤ base) (hb1 : base < 140737488355328) :
    x2.m K ⟨s, base⟩ (at_ : Int) (n : Int) = if at_ + n ≤ s.length then .ok ((s.drop at_).take n, base + at_, 0) else .ok ([], 0, 2) := by
  unfold x2.m
  have h0 : (decide ((at_ : Int) < 0) || decide ((n : Int) < 0)) = false := by rw [Bool.or_eq_false_iff]; exact ⟨decide_eq_false (by omega), decide_eq_false (by omega)⟩
  rw [h0, cond_false]
  dsimp only
  by_cases h : at_ + n ≤ s.length
  · have h1 : (decide ((at_ : Int) > (s.length : Int)) || decide ((n : Int) > qi ((s.length : Int) - (at_ : Int)))) = false := by
      rw [Bool.or_eq_false_iff, xy (by omega) (by omega)]; exact ⟨decide_eq_false (by omega), decide_eq_false (by omega)⟩
    have e : qi ((at_ : Int) + (n : Int)) = ((at_ + n : Nat) : Int) := by rw [xy (by omega) (by omega)]; push_cast; rfl
    rw [h1, cond_false, if_pos h, e, jY (by omega) (by omega) (by omega), YS, Nat.add_sub_cancel_left, xy (by omega) (by omega)]
    rfl
  · have h1 : (decide ((at_ : Int) > (s.length : Int)) || decide ((n : Int) > qi ((s.length : Int) - (at_ : Int)))) = true := by
      rw [Bool.or_eq_true, decide_eq_true_eq, decide_eq_true_eq]
      by_cases h2 : at_ > s.length
      · left; omega
      · right; rw [xy (by omega) (by omega)]; omega
    rw [h1, cond_true, if_neg h]
theorem JG (K : Nat) (s : List UInt8) (base : Int) (at_ w : Nat) (hw : JK w) (hs : s.length < 140737488355328) (ha : at_ < 9223372036854775808) (hb0 : 0 ≤ base) (hb1 : base < 140737488355328) (hK : 8 < K) :
    zi.m K ⟨s, base⟩ (at_ : Int) (w : Int) = .ok (((Xe s at_ w).1 : Int), (Xe s at_ w).2) := by
  unfold zi.m Xe
  have hw8 : w ≤ 8 := by unfold JK at hw; omega
  rw [Z6 K w hw, ZB K s base at_ w hs ha (by omega) hb0 hb1]
  simp only [q7.bind_ok, Bool.not_true, cond_false]
  by_cases h : at_ + w ≤ s.length
  · rw [if_pos h, if_pos h]
    have z : ((0 : Int) != 0) = false := rfl
    simp only [q7.bind_ok, z, cond_false, yM.m]
    have hl : ((s.drop at_).take w).length = w := by simp; omega
    have := Yw K ((s.drop at_).take w) w hw8 hl w K 0 (by omega) (by omega)
    rw [ZM s at_ w w (Nat.le_refl _)] at this
    exact this
  · rw [if_neg h, if_neg h]
    rfl
end Go.Pu

set_option maxRecDepth 100000
namespace Go.Pu
open Go Go.Sl Go.Mo
abbrev JO := qd
def QD (b : Nat) : Bool := decide (65 ≤ b ∧ b ≤ 90 ∨ 97 ≤ b ∧ b ≤ 122)
theorem XS : ∀ b : Nat, b < 256 → (decide (uk .u8 (b : Int) 32 < 97) || decide (uk .u8 (b : Int) 32 > 122)) = !QD b := by decide +kernel
def VJ (s : List UInt8) : Bool := s.all (fun x => QD x.toNat) && decide (s.length = 4)
theorem Yq (K : Nat) (s : List UInt8) (hs : s.length < 140737488355328) : ∀ (k : Nat) (D T : List UInt8), D ++ T = s → T.length < k →
    xU.l1 K s k (D.length : Int) = .ok (T.all (fun x => QD x.toNat) && decide (s.length = 4)) := by
  intro k
  induction k with
  | zero => intro D T _ h; omega
  | succ k ih =>
    intro D T h1 hk
    have hlen : D.length + T.length = s.length := by rw [← h1]; simp
    rw [xU.l1, xu]
    cases T with
    | nil =>
      rw [if_neg (by simp only [List.length_nil] at hlen; omega), xP]
      congr 1
      rw [List.all_nil, Bool.true_and, Bool.eq_iff_iff]
      simp only [beq_iff_eq, decide_eq_true_eq]; omega
    | cons x T =>
      simp only [List.length_cons] at hlen hk
      have e1 : rd s (D.length : Int) = x := by rw [← h1]; simp [rd]
      have e3 : qi ((D.length : Int) + 1) = ((D ++ [x]).length : Int) := by rw [xy (by omega) (by omega)]; simp
      rw [if_pos (by omega), jF (by omega), xz, e1, xP, XS _ x.toNat_lt, e3, List.all_cons]
      cases hx : QD x.toNat with
      | false => rfl
      | true =>
        rw [Bool.not_true, cond_false, Bool.true_and]
        exact ih (D ++ [x]) T (by rw [← h1]; simp) (by omega)
theorem YK (K : Nat) (s : List UInt8) (hs : s.length < 140737488355328) : ∀ (k : Nat) (D T : List UInt8), D ++ T = s → T.length < k →
    qT.l1 K s k (D.length : Int) = .ok (T.all (fun x => QD x.toNat) && decide (s.length = 4)) := by
  intro k
  induction k with
  | zero => intro D T _ h; omega
  | succ k ih =>
    intro D T h1 hk
    have hlen : D.length + T.length = s.length := by rw [← h1]; simp
    rw [qT.l1, xu]
    cases T with
    | nil =>
      rw [if_neg (by simp only [List.length_nil] at hlen; omega), xP]
      congr 1
      rw [List.all_nil, Bool.true_and, Bool.eq_iff_iff]
      simp only [beq_iff_eq, decide_eq_true_eq]; omega
    | cons x T =>
      simp only [List.length_cons] at hlen hk
      have e1 : rd s (D.length : Int) = x := by rw [← h1]; simp [rd]
      have e3 : qi ((D.length : Int) + 1) = ((D ++ [x]).length : Int) := by rw [xy (by omega) (by omega)]; simp
      have next : qT.j3 K (qT.l1 K s k) (D.length : Int) false = .ok (T.all (fun x => QD x.toNat) && decide (s.length = 4)) := by
        unfold qT.j3
        rw [cond_false, xP, e3]
        exact ih (D ++ [x]) T (by rw [← h1]; simp) (by omega)
      rw [if_pos (by omega), jF (by omega), xz, e1, List.all_cons]
      by_cases hU : 65 ≤ x.toNat ∧ x.toNat ≤ 90
      · have : (!(decide ((x.toNat : Int) ≥ 65) && decide ((x.toNat : Int) ≤ 90))) = false := by rw [decide_eq_true (by omega), decide_eq_true (by omega)]; rfl
        rw [this, cond_false, next, show QD x.toNat = true from decide_eq_true (.inl hU), Bool.true_and]
      · have : (!(decide ((x.toNat : Int) ≥ 65) && decide ((x.toNat : Int) ≤ 90))) = true := by
          rw [Bool.not_eq_true', Bool.and_eq_false_iff, decide_eq_false_iff_not, decide_eq_false_iff_not]; omega
        rw [this, cond_true, xu]
        unfold qT.j2
        by_cases hL : 97 ≤ x.toNat
        · rw [if_pos (by omega)]
          by_cases hL2 : x.toNat ≤ 122
          · rw [decide_eq_true (show (x.toNat : Int) ≤ 122 by omega), Bool.not_true, next, show QD x.toNat = true from decide_eq_true (.inr ⟨hL, hL2⟩), Bool.true_and]
          · rw [decide_eq_false (show ¬ (x.toNat : Int) ≤ 122 by omega), show QD x.toNat = false from decide_eq_false (by omega)]; rfl
        · rw [if_neg (by omega), show QD x.toNat = false from decide_eq_false (by omega)]; rfl
theorem Z9 (K : Nat) (s : List UInt8) (at_ : Nat) (h : at_ + 4 ≤ s.length) (hs : s.length < 140737488355328) : ∀ (j k i : Nat), i + j = 4 → j < k →
    zm.l1 K s (at_ : Int) 4 true k ((Qg s at_ i : Nat) : Int) (i : Int) = .ok (((Qg s at_ 4 : Nat) : Int), 0) := by
  intro j
  induction j with
  | zero =>
    intro k i hi hk
    obtain ⟨k, rfl⟩ : ∃ m, k = m + 1 := ⟨k - 1, by omega⟩
    have : i = 4 := by omega
    subst this
    rw [zm.l1, xu, if_neg (by omega)]
  | succ j ih =>
    intro k i hi hk
    obtain ⟨k, rfl⟩ : ∃ m, k = m + 1 := ⟨k - 1, by omega⟩
    have e1 : qi (qi (qi ((at_ : Int) + 4) - 1) - (i : Int)) = ((at_ + 3 - i : Nat) : Int) := by
      rw [xy (x := (at_ : Int) + 4) (by omega) (by omega), xy (x := (at_ : Int) + 4 - 1) (by omega) (by omega), xy (by omega) (by omega)]; omega
    have e2 : qi ((at_ : Int) + (i : Int)) = ((at_ + i : Nat) : Int) := by rw [xy (by omega) (by omega)]; omega
    have e3 : qi ((i : Int) + 1) = ((i + 1 : Nat) : Int) := by rw [xy (by omega) (by omega)]; omega
    have hb := Qw s at_ i
    have hp : 256 ^ i ≤ 256 ^ 3 := Nat.pow_le_pow_right (by decide) (by omega)
    have hx : (rd s ((at_ + i : Nat) : Int)).toNat = yI s (at_ + i) := by rw [Ji (by omega)]; simp [yI, List.getD, List.getElem?_eq_getElem (show at_ + i < s.length by omega)]
    have hxl := uy s (at_ + i)
    rw [zm.l1, xu, if_pos (by omega), e1, jF (by omega), xz, xP, cond_true, e2, jF (by omega), xz, xP, hx]
    unfold zm.j2
    have e4 : wr .u64 (wr .u64 (((Qg s at_ i : Nat) : Int) * 256) + wr .u64 ((yI s (at_ + i) : Nat) : Int)) = ((Qg s at_ (i + 1) : Nat) : Int) := by
      rw [vc (x := ((Qg s at_ i : Nat) : Int) * 256) (by omega) (by omega), vc (x := ((yI s (at_ + i) : Nat) : Int)) (by omega) (by omega), vc (by omega) (by omega)]
      simp only [Qg]; omega
    rw [e4, e3, xP, xP]
    exact ih k (i + 1) (by omega) (by omega)
theorem Zf (K : Nat) (s : List UInt8) (at_ : Nat) (h : at_ + 4 ≤ s.length) (hs : s.length < 140737488355328) (hK : 8 < K) : xG.m K s (at_ : Int) = .ok ((Qg s at_ 4 : Nat) : Int) := by
  unfold xG.m zm.m yu.m
  have hb := Qw s at_ 4
  rw [show ((((((4 : Int) == 1) || ((4 : Int) == 2)) || ((4 : Int) == 4)) || ((4 : Int) == 8))) = true from rfl, xP, q7.bind_ok, show ((!true) || decide ((at_ : Int) < 0)) = false from by rw [Bool.not_true, Bool.false_or]; exact decide_eq_false (by omega), cond_false]
  have d : (decide ((at_ : Int) > (s.length : Int)) || decide ((4 : Int) > qi ((s.length : Int) - (at_ : Int)))) = false := by
    rw [Bool.or_eq_false_iff, xy (by omega) (by omega)]
    exact ⟨decide_eq_false (by omega), decide_eq_false (by omega)⟩
  rw [d, cond_false]
  have := Z9 K s at_ h hs 4 K 0 rfl (by omega)
  rw [show ((Qg s at_ 0 : Nat) : Int) = 0 from rfl, show ((0 : Nat) : Int) = 0 from rfl] at this
  rw [this, q7.bind_ok]
  dsimp only
  rw [v4 (by omega) (by omega), xP]
theorem XW (K : Nat) (hK : 40000 ≤ K) (s : List UInt8) (hs : s.length ≤ 20000) : ∀ (k at_ : Nat) (out : List JO), s.length < at_ + k → at_ ≤ s.length → out.length ≤ at_ →
    ∃ l e, l.length ≤ 40000 ∧ z5.l1 K s k out (at_ : Int) = .ok (l, e) ∧ qU.l1 K s k out (at_ : Int) = .ok (l, e) := by
  intro k
  induction k with
  | zero =>
    intro at_ out h1 h2 _
    omega
  | succ k ih =>
    intro at_ out h1 h2 h3
    have hw4 : JK 4 := .inr (.inr (.inl rfl))
    have hU := fun a ha => JG K s 0 a 4 hw4 (by omega) ha (by omega) (by omega) (by omega)
    rw [show ((4 : Nat) : Int) = 4 from rfl] at hU
    have eL : qi ((s.length : Int) - (at_ : Int)) = (s.length : Int) - (at_ : Int) := xy (by omega) (by omega)
    have e4 : qi ((at_ : Int) + 4) = ((at_ + 4 : Nat) : Int) := by rw [xy (by omega) (by omega)]; omega
    have e8 : qi ((at_ : Int) + 8) = ((at_ + 8 : Nat) : Int) := by rw [xy (by omega) (by omega)]; omega
    rw [z5.l1, qU.l1, hU at_ (by omega), q7.bind_ok]
    dsimp only
    rw [eL, xu]
    unfold Xe
    by_cases hc4 : at_ + 4 ≤ s.length
    · rw [if_pos hc4]
      dsimp only
      have hS4 := ZB K s 0 (at_ + 4) 4 (by omega) (by omega) (by omega) (by omega) (by omega)
      rw [show ((4 : Nat) : Int) = 4 from rfl] at hS4
      rw [show ((0 : Int) != 0) = false from rfl, cond_false, e4, hS4]
      by_cases hc8 : at_ + 8 ≤ s.length
      · rw [if_pos (by omega), q7.bind_ok]
        dsimp only
        have hn := Qw s at_ 4
        generalize hN : Qg s at_ 4 = N at hn
        have hsub : sub s ((at_ + 4 : Nat) : Int) ((at_ + 8 : Nat) : Int) = (s.drop (at_ + 4)).take 4 := by
          simp only [sub, Int.toNat_natCast]; rw [show at_ + 8 - (at_ + 4) = 4 from by omega]
        rw [show ((0 : Int) != 0) = false from rfl, xP, cond_false, if_neg (by omega), Zf K s at_ (by omega) (by omega) (by omega), hN, q7.bind_ok, e8, jY (by omega) (by omega) (by omega), xz, xP, hsub]
        have htl : ((s.drop (at_ + 4)).take 4).length = 4 := by rw [List.length_take, List.length_drop]; omega
        have hty := Yq K ((s.drop (at_ + 4)).take 4) (by omega) K [] _ rfl (by omega)
        have hty2 := YK K ((s.drop (at_ + 4)).take 4) (by omega) K [] _ rfl (by omega)
        rw [show (([] : List UInt8).length : Int) = 0 from rfl] at hty hty2
        -- what comes behind the type
        have main : N ≤ 2147483647 → ∃ l e, l.length ≤ 40000 ∧ z5.j2 K (z5.l1 K s k) s out (at_ : Int) (N : Int) ((s.drop (at_ + 4)).take 4) ((0 : Int) + ((at_ + 4 : Nat) : Int)) false = .ok (l, e) ∧
            qU.j2 K (qU.l1 K s k) s out (at_ : Int) (N : Int) ((s.drop (at_ + 4)).take 4) false = .ok (l, e) := by
          intro hN2
          unfold z5.j2 qU.j2
          rw [cond_false, cond_false]
          have eN : wr .i64 (N : Int) = (N : Int) := v4 (by omega) (by omega)
          have e4n : qi (4 + (N : Int)) = ((4 + N : Nat) : Int) := by rw [xy (by omega) (by omega)]; omega
          have e8n : qi ((at_ : Int) + qi (8 + (N : Int))) = ((at_ + 8 + N : Nat) : Int) := by rw [xy (x := 8 + _) (by omega) (by omega), xy (by omega) (by omega)]; omega
          have eC1 : qi ((s.length : Int) - (at_ : Int) - 8) = (s.length : Int) - (at_ : Int) - 8 := xy (by omega) (by omega)
          have eC2 : qi ((s.length : Int) - (at_ : Int) - 8 - (N : Int)) = (s.length : Int) - (at_ : Int) - 8 - (N : Int) := xy (by omega) (by omega)
          have e8N : qi (((at_ + 8 : Nat) : Int) + (N : Int)) = ((at_ + 8 + N : Nat) : Int) := by rw [xy (by omega) (by omega)]; omega
          have e12 : qi (qi ((at_ : Int) + 12) + (N : Int)) = ((at_ + 12 + N : Nat) : Int) := by rw [xy (x := (at_ : Int) + 12) (by omega) (by omega), xy (by omega) (by omega)]; omega
          have e12p : qi (((at_ + 8 + N : Nat) : Int) + 4) = ((at_ + 12 + N : Nat) : Int) := by rw [xy (by omega) (by omega)]; omega
          rw [eN, e4n, e8n, e4, ZB K s 0 (at_ + 4) (4 + N) (by omega) (by omega) (by omega) (by omega) (by omega), eL, eC1, eC2, e8, e8N, e12, Zn, xu, xu]
          by_cases hd : at_ + 8 + N ≤ s.length
          · rw [if_pos (by omega), q7.bind_ok]
            dsimp only
            rw [show ((0 : Int) != 0) = false from rfl, cond_false, xP, e12p, hU (at_ + 8 + N) (by omega), q7.bind_ok]
            dsimp only
            unfold Xe
            by_cases hd4 : at_ + 8 + N + 4 ≤ s.length
            · rw [if_pos hd4]
              dsimp only
              have hdl : ((s.drop (at_ + 4)).take (4 + N)).length = 4 + N := by rw [List.length_take, List.length_drop]; omega
              have hdata : sub s ((at_ + 8 : Nat) : Int) ((at_ + 8 + N : Nat) : Int) = (s.drop (at_ + 8)).take N := by
                simp only [sub, Int.toNat_natCast]; rw [show at_ + 8 + N - (at_ + 8) = N from by omega]
              have hboth : (s.drop (at_ + 4)).take 4 ++ (s.drop (at_ + 8)).take N = (s.drop (at_ + 4)).take (4 + N) := by
                rw [List.take_add, List.drop_drop]
              have hrest : sub ((s.drop (at_ + 4)).take (4 + N)) 4 ((((s.drop (at_ + 4)).take (4 + N)).length : Nat) : Int) = (s.drop (at_ + 8)).take N := by
                rw [← hboth]
                have h4 : ((s.drop (at_ + 4)).take 4).length = 4 := htl
                simp only [sub]
                rw [show Int.toNat 4 = ((s.drop (at_ + 4)).take 4).length from by rw [h4]; rfl, List.drop_left, Int.toNat_natCast, List.length_append]
                exact List.take_of_length_le (by omega)
              have hdl2 : ((s.drop (at_ + 8)).take N).length = N := by rw [List.length_take, List.length_drop]; omega
              have hb2 := Qw s (at_ + 8 + N) 4
              have hcr := YC (c := 0) (by decide) ((s.drop (at_ + 4)).take (4 + N))
              rw [show ((0 : Int) != 0) = false from rfl, xP, cond_false, if_neg (by omega), if_neg (by omega), show subok ((at_ + 8 : Nat) : Int) ((at_ + 8 + N : Nat) : Int) s.length = true from jY (by omega) (by omega) (by omega), xz, hdata]
              simp only [xP]
              rw [Zf K s (at_ + 8 + N) (by omega) (by omega) (by omega), q7.bind_ok, Zp (by omega), xz, hboth, Jj K _ (by omega) (by omega) (by omega), q7.bind_ok]
              unfold xx.m
              rw [q7.bind_ok, YH K _ (by omega) (by omega), q7.bind_ok, jw (by omega) (by omega), v4 (by omega) (by omega), q7.bind_ok, q7.bind_ok, q7.bind_ok]
              cases hne : (((Qg s (at_ + 8 + N) 4 : Nat) : Int) != ((X7 0 ((s.drop (at_ + 4)).take (4 + N)) : Nat) : Int)) with
              | true => exact ⟨[], 4, by simp, rfl, rfl⟩
              | false =>
                rw [cond_false, cond_false, jY (by omega) (by omega) (by omega), xz, hrest, ZD (by simp only [List.length_cons, List.length_nil]; omega), xz, xz]
                cases hend : ((s.drop (at_ + 4)).take 4 == ([73, 69, 78, 68] : List UInt8)) with
                | true =>
                  rw [Bool.not_true, cond_false, cond_true]
                  unfold qU.j3
                  cases hmore : decide (((at_ + 12 + N : Nat) : Int) < (s.length : Int)) with
                  | true => exact ⟨[], 3, by simp, rfl, rfl⟩
                  | false => exact ⟨_, 0, by rw [List.length_append, List.length_singleton]; omega, rfl, rfl⟩
                | false =>
                  rw [Bool.not_false, cond_true, cond_false]
                  exact ih (at_ + 12 + N) _ (by omega) (by omega) (by rw [List.length_append, List.length_singleton]; omega)
            · rw [if_neg hd4]
              dsimp only
              rw [if_neg (by omega), if_pos (by omega)]
              exact ⟨[], 2, by simp, rfl, rfl⟩
          · rw [if_neg (by omega), q7.bind_ok]
            dsimp only
            rw [if_pos (by omega)]
            exact ⟨[], 2, by simp, rfl, rfl⟩
        rw [xu, xu]
        by_cases hbig : N > 2147483647
        · rw [if_pos (by omega), if_pos (by omega)]
          exact ⟨[], 3, by simp, rfl, rfl⟩
        · rw [if_neg (by omega), if_neg (by omega)]
          unfold xx.m xU.m qT.m
          rw [q7.bind_ok, hty, hty2, q7.bind_ok, q7.bind_ok]
          cases (((s.drop (at_ + 4)).take 4).all (fun x => QD x.toNat) && decide (((s.drop (at_ + 4)).take 4).length = 4)) with
          | true => exact main (by omega)
          | false => exact ⟨[], 3, by simp, rfl, rfl⟩
      · rw [if_neg (by omega), q7.bind_ok, if_pos (by omega)]
        exact ⟨[], 2, by simp, rfl, rfl⟩
    · rw [if_neg hc4, if_pos (by omega)]
      exact ⟨[], 2, by simp, rfl, rfl⟩
end Go.Pu

set_option maxRecDepth 100000
namespace Go.Pu
open Go Go.Sl Go.Mo
theorem Yk (m : Nat) : xC.m (m + 3000) = .ok true := by kernel_rfl
theorem Je (K : Nat) (hK : 3000 ≤ K) : xC.m K = .ok true := by
  obtain ⟨m, rfl⟩ : ∃ m, K = m + 3000 := ⟨K - 3000, by omega⟩
  exact Yk m
theorem Xx (K : Nat) (a : List JO) (ha : a.length ≤ 40000) (hK : 40000 < K) : zo.m K a a = .ok true := by
  have go : ∀ (T D : List JO) (k : Nat), D ++ T = a → T.length < k → zo.l1 K a a k (D.length : Int) = .ok true := by
    intro T
    induction T with
    | nil =>
      intro D k h hk
      obtain ⟨k, rfl⟩ : ∃ m, k = m + 1 := ⟨k - 1, by omega⟩
      have : D.length = a.length := by rw [← h]; simp
      rw [zo.l1, xu, if_neg (by omega)]
    | cons x T ih =>
      intro D k h hk
      obtain ⟨k, rfl⟩ : ∃ m, k = m + 1 := ⟨k - 1, by omega⟩
      have hlen : D.length + (T.length + 1) = a.length := by rw [← h]; simp
      simp only [List.length_cons] at hk
      have e3 : qi ((D.length : Int) + 1) = ((D ++ [x]).length : Int) := by rw [xy (by omega) (by omega)]; simp
      rw [zo.l1, xu, if_pos (by omega), jF (by omega), xz, xz, beq_self_eq_true, beq_self_eq_true, xP, e3]
      exact ih (D ++ [x]) k (by rw [← h]; simp) (by omega)
  unfold zo.m
  rw [show ((a.length : Int) != (a.length : Int)) = false from by simp, cond_false]
  exact go a [] K rfl (by omega)
theorem XP (K : Nat) (hK : 40000 < K) (s : List UInt8) (hs : s.length ≤ 20000) : ∃ l e, l.length ≤ 40000 ∧ z5.m K s = .ok (l, e) ∧ qU.m K s = .ok (l, e) := by
  unfold z5.m qU.m yF.m xn.m uv.m
  rw [xu, xu]
  by_cases h8 : s.length < 8
  · rw [if_pos (by omega), if_pos (by omega)]
    exact ⟨[], 2, by simp, rfl, rfl⟩
  · have e8 : ((([137, 80, 78, 71, 13, 10, 26, 10] : List UInt8).length : Nat) : Int) = 8 := rfl
    rw [if_neg (by omega), if_neg (by omega), e8, decide_eq_true (show (s.length : Int) ≥ 8 by omega), jY (by omega) (by omega) (by omega), show Jc true true true = true from rfl, xz, xz, xP, Bool.true_and, q7.bind_ok, q7.bind_ok]
    cases hq : (sub s 0 8 == ([137, 80, 78, 71, 13, 10, 26, 10] : List UInt8)) with
    | false => exact ⟨[], 3, by simp, rfl, rfl⟩
    | true =>
      rw [Bool.not_true, cond_false, q7.bind_ok, cond_false]
      exact XW K (by omega) s hs K 8 [] (by omega) (by omega) (by simp)
theorem Z7 (K : Nat) (hK : 40000 < K) (hL : xC.m K = .ok true) (s : List UInt8) (_ : s.length ≤ 140737488351232) : zd.m K s = .ok true := by
  unfold zd.m
  rw [hL, xu]
  by_cases hs : s.length > 20000
  · rw [if_pos (by omega), q7.bind_ok]
  · rw [if_neg (by omega)]
    obtain ⟨l, e, h1, h2, h3⟩ := XP K hK s (by omega)
    rw [h2, q7.bind_ok]
    dsimp only
    rw [h3, q7.bind_ok]
    dsimp only
    rw [beq_self_eq_true, cond_true, Xx K l h1 (by omega), q7.bind_ok]
    unfold zd.j1 zd.j2
    rw [hL]; rfl
theorem QG (s : List UInt8) (hs : s.length ≤ 140737488351232) : zd.m 60000 s = .ok true := Z7 60000 (by omega) (Je 60000 (by omega)) s hs
end Go.Pu

