/- Plain facts on the models: what they compute, and what holds of them; conditions: what each theorem states. -/
import Derived.Test.YtkphnjbmheoifaaMneema
set_option linter.unusedVariables false
set_option linter.unusedSimpArgs false
namespace Go.Pu
open Go Go.Sl
theorem qw {x : Int} (h0 : -9223372036854775808 ≤ x) (h1 : x < 9223372036854775808) : ql x = x := by
  show (if (true && decide (x % 18446744073709551616 ≥ 9223372036854775808)) = true then x % 18446744073709551616 - 18446744073709551616 else x % 18446744073709551616) = x
  split <;> rename_i h <;> simp at h <;> omega
theorem Z9 (x : Int) : wr .u64 x = x % 18446744073709551616 := by
  simp [wr, IntKind.wrap, IntKind.bits, IntKind.signed]
theorem xX {x : Int} (h0 : 0 ≤ x) (h1 : x < 18446744073709551616) : wr .u64 x = x := by rw [Z9]; omega
theorem QK {x : Int} (h0 : -9223372036854775808 ≤ x) (h1 : x < 9223372036854775808) : wr .i64 x = x := qw h0 h1
theorem Qn {k : IntKind} {a n : Nat} (hn : n ≤ k.bits) : yk k (a : Int) (n : Int) = ((a / 2 ^ n : Nat) : Int) := by
  unfold yk
  rw [Int.toNat_natCast, Nat.min_eq_left hn, Int.fdiv_eq_ediv_of_nonneg _ (Int.pow_nonneg (by decide))]
  simp
theorem vJ {a n : Nat} (hn : n ≤ 64) (h : a * 2 ^ n < 9223372036854775808) : xn .i64 (a : Int) (n : Int) = ((a * 2 ^ n : Nat) : Int) := by
  unfold xn
  rw [Int.toNat_natCast, show min n IntKind.i64.bits = n from Nat.min_eq_left hn]
  have e : (a : Int) * 2 ^ n = ((a * 2 ^ n : Nat) : Int) := by push_cast; rfl
  rw [e]
  exact qw (by omega) (by omega)
end Go.Pu

namespace Go.Pu
open Go Go.Sl Go.Mo
def QO (t : List UInt8) (i : Nat) : Bool := (t.getD (i / 8) 0).toNat.testBit (i % 8)
def XE (t : List UInt8) (p : Nat) : Nat → Nat
  | 0 => 0
  | n + 1 => XE t p n + (QO t (p + n)).toNat * 2 ^ n
def XG (t : List UInt8) (p n : Nat) : Except Int (Nat × Nat) := if p + n ≤ 8 * t.length then .ok (XE t p n, p + n) else .error 2
end Go.Pu

namespace Go.Pu
open Go Go.Sl Go.Mo
end Go.Pu

namespace Go.Pu
open Go Go.Sl Go.Mo
def Xw (t : List UInt8) (p n : Nat) : Except Int (List UInt8 × Nat) :=
  if (p + 7) / 8 + n ≤ t.length then .ok ((t.drop ((p + 7) / 8)).take n, 8 * ((p + 7) / 8 + n)) else .error 2
end Go.Pu

namespace Go.Pu
open Go Go.Sl Go.Mo
def QM (x : Int) : Prop := 0 ≤ x ∧ x ≤ 15
instance (x : Int) : Decidable (QM x) := inferInstanceAs (Decidable (_ ∧ _))
def Xg (l : List Int) : Prop := l.length ≤ 320 ∧ ∀ x ∈ l, QM x
instance (l : List Int) : Decidable (Xg l) := inferInstanceAs (Decidable (_ ∧ _))
def cs (l : List Int) : List Int := (List.range 16).map fun (j : Nat) => ((l.count (j : Int) : Nat) : Int)
def X5 (l : List Int) : List Int := (List.range 16).map fun (j : Nat) => if j = 0 then 0 else ((l.count (j : Int) : Nat) : Int)
theorem Qw {α : Type} [Inhabited α] {l : List α} {i : Nat} (h : i < l.length) : rd l (i : Int) = l[i] := by
  simp [rd, List.getD, List.getElem?_eq_getElem h]
theorem zH {i n : Nat} (h : i < n) : inb (i : Int) n = true := by simp only [inb, decide_eq_true_eq]; omega
theorem uv {α : Type} {l : List α} {i : Nat} (h : i < l.length) : l.take (i + 1) = l.take i ++ [l[i]] := List.take_succ_eq_append_getElem h
theorem yC {α : Type} {l : List α} {i : Nat} (h : i < l.length) : l.drop i = l[i] :: l.drop (i + 1) := List.drop_eq_getElem_cons h
end Go.Pu

namespace Go.Pu
open Go Go.Sl Go.Mo
def c0 (l : List Int) (n : Nat) : Nat := if n = 0 then 0 else l.count (n : Int)
def ks (l : List Int) : Nat → Nat
  | 0 => 0
  | i + 1 => ks l i + c0 l i * 2 ^ (15 - i)
def nz (l : List Int) : List Int := l.filter fun x => decide (0 < x)
def yE (l : List Int) : Int := if Xg l then (if nz l = [] ∨ nz l = [1] ∨ ks l 16 = 32768 then 0 else 3) else 1
theorem ZM {l : List Int} (h : l.length ≤ 320) (n : Nat) : c0 l n ≤ 320 := by
  unfold c0
  split
  · omega
  · exact Nat.le_trans List.count_le_length h
theorem Zc {l : List Int} (h : l.length ≤ 320) : ∀ i, ks l i ≤ i * 10485760
  | 0 => by simp [ks]
  | i + 1 => by
    have h1 := Zc h i
    have h2 : c0 l i * 2 ^ (15 - i) ≤ 320 * 2 ^ 15 := Nat.mul_le_mul (ZM h i) (Nat.pow_le_pow_right (by decide) (by omega))
    rw [ks]; omega
theorem QP (x : Int) (l : List Int) (n : Nat) : c0 (x :: l) n = c0 l n + (if 0 < n ∧ x = n then 1 else 0) := by
  unfold c0
  by_cases h : n = 0
  · subst h; simp
  · have : 0 < n := by omega
    simp only [h, if_false, List.count_cons, this, true_and]
    by_cases hx : x = (n : Int) <;> simp [hx]
theorem vr (x : Int) (l : List Int) : ∀ i, ks (x :: l) i = ks l i + (if 0 < x ∧ x < i then 2 ^ (15 - x.toNat) else 0)
  | 0 => by simp [ks]; omega
  | i + 1 => by
    rw [ks, ks, vr x l i, QP]
    by_cases hx : x = (i : Int)
    · subst hx
      by_cases h0 : 0 < i
      · have h1 : (0 : Int) < (i : Int) := by omega
        have h2 : ¬ ((i : Int) < (i : Int)) := by omega
        have h3 : (i : Int) < ((i + 1 : Nat) : Int) := by omega
        simp only [h0, h1, h2, h3, and_true, and_false, if_true, if_false, Int.toNat_natCast]
        rw [Nat.add_mul, Nat.one_mul]; omega
      · have : i = 0 := by omega
        subst this; simp
    · have h1 : ¬ (0 < i ∧ x = (i : Int)) := fun h => hx h.2
      rw [if_neg h1]
      by_cases h2 : 0 < x ∧ x < (i : Int)
      · have h3 : 0 < x ∧ x < ((i + 1 : Nat) : Int) := by omega
        rw [if_pos h2, if_pos h3]; simp only [Nat.add_zero]; omega
      · have h3 : ¬ (0 < x ∧ x < ((i + 1 : Nat) : Int)) := by omega
        rw [if_neg h2, if_neg h3]; simp only [Nat.add_zero]
end Go.Pu

namespace Go.Pu
open Go Go.Sl Go.Mo
theorem uH {l l' : List Int} (h : l.Perm l') : ∀ i, ks l i = ks l' i
  | 0 => rfl
  | i + 1 => by rw [ks, ks, uH h i, c0, c0, h.count_eq]
theorem Q0 (l : List Int) (x : Int) (i : Nat) : ks (l ++ [x]) i = ks l i + (if 0 < x ∧ x < i then 2 ^ (15 - x.toNat) else 0) := by
  rw [uH (List.perm_append_singleton x l) i, vr]
theorem Q5 (l : List Int) (x : Int) : nz (l ++ [x]) = if 0 < x then nz l ++ [x] else nz l := by
  unfold nz
  rw [List.filter_append]
  split <;> rename_i h <;> simp [h]
theorem jd (K : Nat) (l : List Int) (hl : l.length ≤ 320) : ∀ j k i, i + j = l.length → j < k → (∀ x ∈ l.drop i, QM x) →
    qn.l1 K l k (ks (l.take i) 16 : Int) ((nz (l.take i)).length : Int) ((nz (l.take i)).getLastD 0) (i : Int) =
      qn.j2 K (ks l 16 : Int) ((nz l).length : Int) ((nz l).getLastD 0)
  | _, 0, _, _, h, _ => by omega
  | 0, k + 1, i, hi, _, _ => by
    rw [qn.l1]
    have h1 : decide ((i : Int) < (l.length : Int)) = false := by simp only [decide_eq_false_iff_not]; omega
    rw [h1, cond_false, List.take_of_length_le (by omega)]
  | j + 1, k + 1, i, hi, hk, hr => by
    rw [qn.l1]
    have hil : i < l.length := by omega
    have h1 : decide ((i : Int) < (l.length : Int)) = true := by simp only [decide_eq_true_eq]; omega
    rw [h1, cond_true, zH hil]
    simp only [qs, qI, Qw hil]
    rw [yC hil] at hr
    have hin := hr l[i] List.mem_cons_self
    have h2 : (decide (l[i] < 0) || decide (l[i] > 15)) = false := by obtain ⟨a, b⟩ := hin; simp; omega
    rw [h2, cond_false]
    have e : ql ((i : Int) + 1) = ((i + 1 : Nat) : Int) := by rw [qw (by omega) (by omega)]; push_cast; rfl
    have IH := jd K l hl j k (i + 1) (by omega) (by omega) (fun x hx => hr x (List.mem_cons_of_mem _ hx))
    rw [uv hil, Q0, Q5] at IH
    generalize l[i] = x at hin IH ⊢
    obtain ⟨h0, h15⟩ := hin
    by_cases hx : 0 < x
    · have h3 : decide (x > 0) = true := by simpa using hx
      rw [h3, cond_true]
      obtain ⟨m, rfl⟩ := Int.eq_ofNat_of_zero_le h0
      have e1 : wr .u64 (ql (15 - (m : Int))) = ((15 - m : Nat) : Int) := by rw [qw (by omega) (by omega), xX (by omega) (by omega)]; omega
      have h4 : decide ((0 : Int) ≤ ((15 - m : Nat) : Int)) = true := decide_eq_true (Int.natCast_nonneg _)
      have hp : 2 ^ (15 - m) ≤ 2 ^ 15 := Nat.pow_le_pow_right (by decide) (by omega)
      have e2 : xn .i64 (1 : Int) ((15 - m : Nat) : Int) = ((1 * 2 ^ (15 - m) : Nat) : Int) := vJ (a := 1) (by omega) (by omega)
      have hb := Zc (l := l.take i) (by simp; omega) 16
      have e3 : ql ((ks (l.take i) 16 : Int) + ((1 * 2 ^ (15 - m) : Nat) : Int)) = ((ks (l.take i) 16 + 2 ^ (15 - m) : Nat) : Int) := by rw [qw (by omega) (by omega)]; push_cast; omega
      have hnl : (nz (l.take i)).length ≤ 320 := Nat.le_trans (List.length_filter_le _ _) (by simp; omega)
      have e4 : ql (((nz (l.take i)).length : Int) + 1) = (((nz (l.take i)).length + 1 : Nat) : Int) := by rw [qw (by omega) (by omega)]; push_cast; rfl
      simp only [e1, h4, qs, e2, e3, e4, e]
      have h5 : (0 : Int) < (m : Int) ∧ (m : Int) < ((16 : Nat) : Int) := by omega
      rw [if_pos h5, if_pos hx, Int.toNat_natCast] at IH
      simpa using IH
    · have h3 : decide (x > 0) = false := by simpa using hx
      rw [h3, cond_false]
      have h5 : ¬ ((0 : Int) < x ∧ x < ((16 : Nat) : Int)) := by omega
      rw [if_neg h5, if_neg hx, Nat.add_zero] at IH
      rw [e]
      exact IH
theorem x9 (K : Nat) (l : List Int) (hl : l.length ≤ 320) : ∀ j k i s n z, i + j = l.length → j < k → (∃ x ∈ l.drop i, ¬ QM x) →
    qn.l1 K l k s n z (i : Int) = .ok 1
  | _, 0, _, _, _, _, _, h, _ => by omega
  | 0, k + 1, i, s, n, z, hi, _, ⟨x, hx, _⟩ => by
    rw [List.drop_eq_nil_of_le (by omega)] at hx; cases hx
  | j + 1, k + 1, i, s, n, z, hi, hk, ⟨x, hx, hn⟩ => by
    rw [qn.l1]
    have hil : i < l.length := by omega
    have h1 : decide ((i : Int) < (l.length : Int)) = true := by simp only [decide_eq_true_eq]; omega
    rw [h1, cond_true, zH hil]
    simp only [qs, qI, Qw hil]
    have e : ql ((i : Int) + 1) = ((i + 1 : Nat) : Int) := by rw [qw (by omega) (by omega)]; push_cast; rfl
    by_cases hin : QM l[i]
    · have h2 : (decide (l[i] < 0) || decide (l[i] > 15)) = false := by obtain ⟨a, b⟩ := hin; simp; omega
      have hx' : ∃ x ∈ l.drop (i + 1), ¬ QM x := by
        rw [yC hil] at hx
        rcases List.mem_cons.1 hx with rfl | hx
        · exact absurd hin hn
        · exact ⟨x, hx, hn⟩
      rw [h2, cond_false]
      obtain ⟨m, hm⟩ := Int.eq_ofNat_of_zero_le hin.1
      have hm15 := hin.2
      by_cases h3 : decide (l[i] > 0) = true
      · have e1 : wr .u64 (ql (15 - l[i])) = ((15 - m : Nat) : Int) := by rw [hm, qw (by omega) (by omega), xX (by omega) (by omega)]; omega
        have h4 : decide ((0 : Int) ≤ ((15 - m : Nat) : Int)) = true := decide_eq_true (Int.natCast_nonneg _)
        simp only [h3, cond_true, e1, h4, qs, e]
        exact x9 K l hl j k (i + 1) _ _ _ (by omega) (by omega) hx'
      · rw [Bool.not_eq_true] at h3
        rw [h3, cond_false, e]
        exact x9 K l hl j k (i + 1) _ _ _ (by omega) (by omega) hx'
    · have h2 : (decide (l[i] < 0) || decide (l[i] > 15)) = true := by unfold QM at hin; simp; omega
      rw [h2, cond_true]
theorem Qx (K : Nat) (l : List Int) (hK : 320 < K) : qn.m K l = .ok (yE l) := by
  unfold qn.m yE
  by_cases h : Xg l
  · rw [if_pos h]
    have h3 : decide ((l.length : Int) > 320) = false := by have := h.1; simp only [decide_eq_false_iff_not]; omega
    rw [h3, cond_false]
    have := jd K l h.1 l.length K 0 (by omega) (by have := h.1; omega) (by simpa using h.2)
    have hk0 : ks (l.take 0) 16 = 0 := by simp [ks, c0]
    rw [hk0] at this
    refine (show qn.l1 K l K (0 : Int) (0 : Int) (0 : Int) (0 : Int) = _ from this).trans ?_
    unfold qn.j2 qn.j3 qn.j4
    have e3 : ((ks l 16 : Int) == 32768) = decide (ks l 16 = 32768) := by
      rw [Bool.eq_iff_iff]; simp only [beq_iff_eq, decide_eq_true_eq]; omega
    rw [e3]
    match hz : nz l with
    | [] => simp
    | [x] =>
      have hb : (x == 1) = decide (x = 1) := rfl
      by_cases c : ks l 16 = 32768 <;> by_cases hx : x = 1 <;> simp [c, hx, hb]
    | x :: y :: r =>
      have h1 : (((x :: y :: r).length : Int) == 0) = false := by rw [beq_eq_false_iff_ne]; simp; omega
      have h2 : (((x :: y :: r).length : Int) == 1) = false := by rw [beq_eq_false_iff_ne]; simp; omega
      rw [h1, h2]
      by_cases c : ks l 16 = 32768 <;> simp [c]
  · rw [if_neg h]
    by_cases h1 : l.length ≤ 320
    · have h3 : decide ((l.length : Int) > 320) = false := by simp only [decide_eq_false_iff_not]; omega
      rw [h3, cond_false]
      have hb : ∃ x ∈ l.drop 0, ¬ QM x := by
        apply Classical.byContradiction
        intro hno
        refine h ⟨h1, fun x hx => Classical.byContradiction fun hx2 => hno ⟨x, by simpa using hx, hx2⟩⟩
      exact x9 K l h1 l.length K 0 _ _ _ (by omega) (by omega) hb
    · have h3 : decide ((l.length : Int) > 320) = true := by simp only [decide_eq_true_eq]; omega
      rw [h3, cond_true]
end Go.Pu

namespace Go.Pu
open Go Go.Sl Go.Mo
def ZF (l : List Int) : Nat → Nat
  | 0 => 0
  | n + 1 => 2 * (ZF l n + c0 l n)
def Xb (l : List Int) (i : Nat) : Nat := if 0 < l.getD i 0 then ZF l (l.getD i 0).toNat + (l.take i).count (l.getD i 0) else 0
def Xm (l : List Int) : List Int := (List.range l.length).map fun (i : Nat) => (Xb l i : Int)
def XW (l : List Int) (n i : Nat) : List Int := (List.range l.length).map fun (j : Nat) =>
  if (0 < l.getD j 0 ∧ l.getD j 0 < (n : Int)) ∨ (l.getD j 0 = (n : Int) ∧ j < i) then (Xb l j : Int) else 0
theorem uC {l : List Int} {i : Nat} (h : i < l.length) : l.getD i 0 = l[i] := by simp [List.getD, List.getElem?_eq_getElem h]
end Go.Pu

namespace Go.Pu
open Go Go.Sl Go.Mo
def idx (l : List Int) (n i : Nat) : List Int := ((List.range i).filter fun j => decide (l.getD j 0 = (n : Int))).map fun (j : Nat) => (j : Int)
def jM (l : List Int) : Nat → List Int
  | 0 => []
  | n + 1 => if n = 0 then [] else jM l n ++ idx l n l.length
end Go.Pu

namespace Go.Pu
open Go Go.Sl Go.Mo
end Go.Pu

namespace Go.Pu
open Go Go.Sl Go.Mo
end Go.Pu

namespace Go.Pu
open Go Go.Sl Go.Mo
def ul (l : List Int) (t : List UInt8) : Nat → Nat → Nat → Nat → Except Int (Nat × Nat)
  | 0, _, _, _ => .error 3
  | k + 1, n, v, p =>
    if (jM l (n + 1)).length < (jM l 16).length then
      if p + 1 ≤ 8 * t.length then
        if 2 * v + (QO t p).toNat < ZF l (n + 1) + c0 l (n + 1) then .ok (((jM l 16).getD ((jM l (n + 1)).length + (2 * v + (QO t p).toNat) - ZF l (n + 1)) 0).toNat, p + 1)
        else ul l t k (n + 1) (2 * v + (QO t p).toNat) (p + 1)
      else .error 2
    else .error 3
def XH (l : List Int) (t : List UInt8) (p : Nat) : Except Int (Nat × Nat) := ul l t 16 0 0 p
end Go.Pu

namespace Go.Pu
open Go Go.Sl Go.Mo
def Xo (l : List Int) (n v i : Nat) : Prop := l.getD i 0 = (n : Int) ∧ 0 < n ∧ Xb l i = v
def ZV (l : List Int) (n v i : Nat) : Prop := (n : Int) < l.getD i 0 ∧ Xb l i / 2 ^ ((l.getD i 0).toNat - n) = v
instance (l : List Int) (n v i : Nat) : Decidable (Xo l n v i) := inferInstanceAs (Decidable (_ ∧ _))
instance (l : List Int) (n v i : Nat) : Decidable (ZV l n v i) := inferInstanceAs (Decidable (_ ∧ _))
end Go.Pu

namespace Go.Pu
open Go Go.Sl Go.Mo
def XD (l : List Int) (t : List UInt8) (n v p : Nat) : Except Int (Nat × Nat) :=
  if 0 < n ∧ v < ZF l n + c0 l n then .ok (((jM l 16).getD ((jM l n).length + v - ZF l n) 0).toNat, p) else ul l t (16 - n) n v p
end Go.Pu

namespace Go.Pu
open Go Go.Sl Go.Mo
theorem QH {lo hi : Int} {n : Nat} (h0 : 0 ≤ lo) (h1 : lo ≤ hi) (h2 : hi ≤ (n : Int)) : subok lo hi n = true := yx.2 ⟨h0, h1, h2⟩
theorem z3 {n k : Nat} (h : n * k ≤ 140737488355328) : room n k = true := decide_eq_true h
theorem yh {x : Int} (h : 0 ≤ x) : decide (0 ≤ x) = true := decide_eq_true h
section
variable {α : Type}
theorem qt {p : Prop} [Decidable p] (a b : α) : cond (decide p) a b = if p then a else b := by
  by_cases h : p <;> simp [h]
theorem yN {x y : Int} (a b : α) : cond (x == y) a b = if x = y then a else b := by
  by_cases h : x = y
  · rw [if_pos h, beq_iff_eq.2 h]; rfl
  · rw [if_neg h, beq_eq_false_iff_ne.2 h]; rfl
theorem Qe {x y : Int} (a b : α) : cond (x != y) a b = if x = y then b else a := by
  by_cases h : x = y
  · rw [if_pos h, bne_eq_false_iff_eq.2 h]; rfl
  · rw [if_neg h, bne_iff_ne.2 h]; rfl
theorem vF (x : Bool) (a b : α) : cond (!x) a b = cond x b a := by cases x <;> rfl
theorem QU (x y : Bool) (a b : α) : cond (x || y) a b = cond x a (cond y a b) := by cases x <;> rfl
end
end Go.Pu

namespace Go.Pu
open Go Go.Sl Go.Mo
theorem QG {α : Type} (s : List α) (n : Nat) : sub s 0 (n : Int) = s.take n := by simp [sub]
end Go.Pu

set_option maxRecDepth 100000
namespace Go.Pu
open Go Go.Sl Go.Mo
abbrev PK := qb
theorem xh {α : Type} [Inhabited α] (A : List α) (x : α) (B : List α) {i : Int} (h : i = (A.length : Int)) : rd (A ++ x :: B) i = x := by
  subst h; simp [rd, List.getD]
theorem yt {α : Type} (A : List α) (x y : α) (B : List α) {i : Int} (h : i = (A.length : Int)) : (A ++ x :: B).set (Int.toNat i) y = A ++ y :: B := by
  subst h; simp
theorem zY {α : Type} (A : List α) (x : α) (B : List α) {i : Int} (h : i = (A.length : Int)) : inb i (A ++ x :: B).length = true := by
  subst h; simp [inb]; omega
theorem z1 (x : PK) : qb.mk x.often_ x.symbols_ = x := rfl
theorem X0 (K : Nat) : ∀ (k : Nat) (P Y1 X2 M X1 Y2 Q : List PK), Y1.length = X1.length → X2.length = Y2.length → X2.length < k → (P ++ Y1 ++ X2 ++ M ++ X1 ++ Y2 ++ Q).length < 1099511627776 →
    qm.l1 K (P.length : Int) ((P.length + (Y1.length + X2.length) + M.length : Nat) : Int) ((Y1.length + X2.length : Nat) : Int) k (P ++ Y1 ++ X2 ++ M ++ X1 ++ Y2 ++ Q) (Y1.length : Int) =
      .ok (P ++ Y1 ++ Y2 ++ M ++ X1 ++ X2 ++ Q) := by
  intro k
  induction k with
  | zero => intro P Y1 X2 M X1 Y2 Q _ _ h; omega
  | succ k ih =>
    intro P Y1 X2 M X1 Y2 Q h1 h2 h3 h4
    rw [qm.l1]
    cases X2 with
    | nil =>
      have : Y2 = [] := List.length_eq_zero_iff.1 h2.symm
      subst this
      rw [qt, if_neg (by simp)]
    | cons x X2 =>
      cases Y2 with
      | nil => simp at h2
      | cons y Y2 =>
        simp only [List.length_cons, List.length_append] at h2 h3 h4
        have e1 : P ++ Y1 ++ (x :: X2) ++ M ++ X1 ++ (y :: Y2) ++ Q = (P ++ Y1) ++ x :: (X2 ++ M ++ X1 ++ (y :: (Y2 ++ Q))) := by simp
        have e2 : P ++ Y1 ++ (x :: X2) ++ M ++ X1 ++ (y :: Y2) ++ Q = (P ++ Y1 ++ (x :: X2) ++ M ++ X1) ++ y :: (Y2 ++ Q) := by simp
        have ha : ql ((P.length : Int) + (Y1.length : Int)) = ((P ++ Y1).length : Int) := by rw [qw (by omega) (by omega), List.length_append]; omega
        have hb : ql (((P.length + (Y1.length + (x :: X2).length) + M.length : Nat) : Int) + (Y1.length : Int)) = ((P ++ Y1 ++ (x :: X2) ++ M ++ X1).length : Int) := by
          simp only [List.length_cons, List.length_append]; rw [qw (by omega) (by omega)]; omega
        rw [qt, if_pos (by simp only [List.length_cons]; omega), ha, hb]
        rw [show inb ((P ++ Y1 ++ (x :: X2) ++ M ++ X1).length : Int) (P ++ Y1 ++ (x :: X2) ++ M ++ X1 ++ (y :: Y2) ++ Q).length = true from by rw [e2]; exact zY _ _ _ rfl, qs]
        rw [show inb ((P ++ Y1).length : Int) (P ++ Y1 ++ (x :: X2) ++ M ++ X1 ++ (y :: Y2) ++ Q).length = true from by rw [e1]; exact zY _ _ _ rfl, qs]
        rw [show rd (P ++ Y1 ++ (x :: X2) ++ M ++ X1 ++ (y :: Y2) ++ Q) ((P ++ Y1 ++ (x :: X2) ++ M ++ X1).length : Int) = y from by rw [e2]; exact xh _ _ _ rfl]
        rw [show rd (P ++ Y1 ++ (x :: X2) ++ M ++ X1 ++ (y :: Y2) ++ Q) ((P ++ Y1).length : Int) = x from by rw [e1]; exact xh _ _ _ rfl]
        rw [z1, z1, qI, e1, yt _ _ _ _ rfl]
        have e3 : (P ++ Y1) ++ y :: (X2 ++ M ++ X1 ++ (y :: (Y2 ++ Q))) = (P ++ Y1 ++ (y :: X2) ++ M ++ X1) ++ y :: (Y2 ++ Q) := by simp
        have e4 : ((P ++ Y1 ++ (x :: X2) ++ M ++ X1).length : Int) = ((P ++ Y1 ++ (y :: X2) ++ M ++ X1).length : Int) := by simp
        rw [e3, e4, zY _ _ _ rfl, qs, yt _ _ _ _ rfl, qI, qI]
        have hw : ql ((Y1.length : Int) + 1) = ((Y1 ++ [y]).length : Int) := by rw [qw (by omega) (by omega), List.length_append]; rfl
        rw [hw]
        have := ih P (Y1 ++ [y]) X2 M (X1 ++ [x]) Y2 Q (by simp [h1]) (by omega) (by omega) (by simp only [List.length_append, List.length_cons, List.length_nil]; omega)
        simp only [List.length_append, List.length_cons, List.length_nil, List.append_assoc, List.cons_append, List.nil_append, Nat.zero_add] at this ⊢
        rw [show Y1.length + (X2.length + 1) = Y1.length + (1 + X2.length) from by omega]
        simp only [← Nat.add_assoc] at this ⊢
        exact this
theorem QI (K : Nat) (P X M Y Q : List PK) (h : X.length = Y.length) (hK : X.length < K) (hl : (P ++ X ++ M ++ Y ++ Q).length < 1099511627776) {a b n : Int} (ha : a = (P.length : Int)) (hb : b = ((P.length + X.length + M.length : Nat) : Int)) (hn : n = (X.length : Int)) :
    qm.m K (P ++ X ++ M ++ Y ++ Q) a b n = .ok (P ++ Y ++ M ++ X ++ Q) := by
  subst ha; subst hb; subst hn
  have := X0 K K P [] X M [] Y Q rfl h hK (by simpa using hl)
  simpa [qm.m] using this
theorem Xu (K : Nat) (hKl : 0 < K) : ∀ (k : Nat) (P X Y Q : List PK), 0 < X.length → 0 < Y.length → X.length + Y.length < k → (P ++ X ++ Y ++ Q).length < 1099511627776 → (P ++ X ++ Y ++ Q).length < K →
    qj.l1 K ((P.length + X.length : Nat) : Int) k (P ++ X ++ Y ++ Q) (X.length : Int) (Y.length : Int) = .ok (P ++ Y ++ X ++ Q) := by
  intro k
  induction k with
  | zero => intro P X Y Q _ _ h; omega
  | succ k ih =>
    intro P X Y Q hx hy h3 h4 h5
    simp only [List.length_append] at h4 h5
    rw [qj.l1, Qe]
    by_cases he : (X.length : Int) = (Y.length : Int)
    · rw [if_pos he]
      unfold qj.j2
      have := QI K P X [] Y Q (by omega) (by omega) (by simp only [List.length_append, List.length_nil]; omega) (a := ql (((P.length + X.length : Nat) : Int) - (X.length : Int))) (b := ((P.length + X.length : Nat) : Int)) (n := (X.length : Int))
        (by rw [qw (by omega) (by omega)]; omega) (by simp) rfl
      simp only [List.append_nil] at this
      rw [this]; rfl
    · rw [if_neg he, qt]
      by_cases hg : (X.length : Int) > (Y.length : Int)
      · rw [if_pos hg]
        obtain ⟨X1, X2, rfl, hX1⟩ : ∃ X1 X2, X = X1 ++ X2 ∧ X1.length = Y.length := ⟨X.take Y.length, X.drop Y.length, by simp, by rw [List.length_take]; omega⟩
        simp only [List.length_append] at h3 h4 h5 hx hg he
        have := QI K P X1 X2 Y Q (by omega) (by omega) (by simp only [List.length_append]; omega) (a := ql (((P.length + (X1 ++ X2).length : Nat) : Int) - ((X1 ++ X2).length : Int))) (b := ((P.length + (X1 ++ X2).length : Nat) : Int)) (n := (Y.length : Int))
          (by simp only [List.length_append]; rw [qw (by omega) (by omega)]; omega) (by simp only [List.length_append]; omega) (by omega)
        rw [show P ++ (X1 ++ X2) ++ Y ++ Q = P ++ X1 ++ X2 ++ Y ++ Q from by simp, this, qN.bind_ok, qI]
        have hw : ql (((X1 ++ X2).length : Int) - (Y.length : Int)) = (X2.length : Int) := by simp only [List.length_append]; rw [qw (by omega) (by omega)]; omega
        rw [hw]
        have := ih (P ++ Y) X2 X1 Q (by omega) (by omega) (by omega) (by simp only [List.length_append]; omega) (by simp only [List.length_append]; omega)
        rw [hX1] at this
        rw [show ((P.length + (X1 ++ X2).length : Nat) : Int) = (((P ++ Y).length + X2.length : Nat) : Int) from by simp only [List.length_append]; omega, this]
        simp
      · rw [if_neg hg]
        obtain ⟨Y1, Y2, rfl, hY2⟩ : ∃ Y1 Y2, Y = Y1 ++ Y2 ∧ Y2.length = X.length := ⟨Y.take (Y.length - X.length), Y.drop (Y.length - X.length), by simp, by rw [List.length_drop]; omega⟩
        simp only [List.length_append] at h3 h4 h5 hy hg he
        have := QI K P X Y1 Y2 Q (by omega) (by omega) (by simp only [List.length_append]; omega) (a := ql (((P.length + X.length : Nat) : Int) - (X.length : Int))) (b := ql (ql (((P.length + X.length : Nat) : Int) + ((Y1 ++ Y2).length : Int)) - (X.length : Int))) (n := (X.length : Int))
          (by rw [qw (by omega) (by omega)]; omega) (by simp only [List.length_append]; rw [qw (x := ((P.length + X.length : Nat) : Int) + _) (by omega) (by omega), qw (by omega) (by omega)]; omega) rfl
        rw [show P ++ X ++ (Y1 ++ Y2) ++ Q = P ++ X ++ Y1 ++ Y2 ++ Q from by simp, this, qN.bind_ok, qI]
        have hw : ql (((Y1 ++ Y2).length : Int) - (X.length : Int)) = (Y1.length : Int) := by simp only [List.length_append]; rw [qw (by omega) (by omega)]; omega
        rw [hw]
        have := ih P Y2 Y1 (X ++ Q) (by omega) (by omega) (by omega) (by simp only [List.length_append]; omega) (by simp only [List.length_append]; omega)
        rw [hY2] at this
        rw [show P ++ Y2 ++ Y1 ++ X ++ Q = P ++ Y2 ++ Y1 ++ (X ++ Q) from by simp, this]
        simp
theorem Zv (K : Nat) (P X Y Q : List PK) (hx : 0 < X.length) (hy : 0 < Y.length) (h4 : (P ++ X ++ Y ++ Q).length < 1099511627776) (h5 : (P ++ X ++ Y ++ Q).length < K) {a m b : Int} (ha : a = (P.length : Int)) (hm : m = ((P.length + X.length : Nat) : Int))
    (hb : b = ((P.length + X.length + Y.length : Nat) : Int)) : qj.m K (P ++ X ++ Y ++ Q) a m b = .ok (P ++ Y ++ X ++ Q) := by
  subst ha; subst hm; subst hb
  unfold qj.m
  have h4' := h4; have h5' := h5
  simp only [List.length_append] at h4' h5'
  rw [qI, qI, show ql (((P.length + X.length : Nat) : Int) - (P.length : Int)) = (X.length : Int) from by rw [qw (by omega) (by omega)]; omega,
    show ql (((P.length + X.length + Y.length : Nat) : Int) - ((P.length + X.length : Nat) : Int)) = (Y.length : Int) from by rw [qw (by omega) (by omega)]; omega]
  exact Xu K (by omega) K P X Y Q hx hy (by omega) h4 h5
def z9 (l : List PK) : Prop := l.Pairwise fun x y => x.often_ ≤ y.often_
def SS (l l' : List PK) : Prop := z9 l' ∧ l'.Perm l ∧ ∀ k : Int, l'.filter (fun x => x.often_ == k) = l.filter (fun x => x.often_ == k)
theorem z9.append {A B : List PK} (ha : z9 A) (hb : z9 B) (h : ∀ x ∈ A, ∀ y ∈ B, x.often_ ≤ y.often_) : z9 (A ++ B) := List.pairwise_append.2 ⟨ha, hb, h⟩
theorem z9.left {A B : List PK} (h : z9 (A ++ B)) : z9 A := (List.pairwise_append.1 h).1
theorem z9.right {A B : List PK} (h : z9 (A ++ B)) : z9 B := (List.pairwise_append.1 h).2.1
theorem z9.cross {A B : List PK} (h : z9 (A ++ B)) : ∀ x ∈ A, ∀ y ∈ B, x.often_ ≤ y.often_ := (List.pairwise_append.1 h).2.2
theorem SS.refl {l : List PK} (h : z9 l) : SS l l := ⟨h, List.Perm.refl _, fun _ => rfl⟩
theorem yi {X Y : List PK} (h : ∀ x ∈ X, ∀ y ∈ Y, y.often_ < x.often_) (k : Int) : (X ++ Y).filter (fun x => x.often_ == k) = (Y ++ X).filter (fun x => x.often_ == k) := by
  simp only [List.filter_append]
  by_cases hx : X.filter (fun x => x.often_ == k) = []
  · rw [hx]; simp
  · have : Y.filter (fun x => x.often_ == k) = [] := by
      obtain ⟨x, hx⟩ := List.exists_mem_of_ne_nil _ hx
      rw [List.mem_filter] at hx
      rw [List.filter_eq_nil_iff]
      intro y hy
      have := h x hx.1 y hy
      have h2 : x.often_ = k := by simpa using hx.2
      simp only [beq_iff_eq]; omega
    rw [this]; simp
end Go.Pu

set_option maxRecDepth 100000
namespace Go.Pu
open Go Go.Sl Go.Mo
theorem xW {α : Type} (A : List α) : A = [] ∨ ∃ A' z, A = A' ++ [z] := by
  rcases List.eq_nil_or_concat A with h | ⟨A', z, h⟩
  · exact .inl h
  · exact .inr ⟨A', z, by rw [h]; simp⟩
def Qd (x y : Int) : Int := if x < y then -1 else if x > y then 1 else 0
theorem v5 (K : Nat) (x y : Int) : zK.m K x y = .ok (Qd x y) := by
  unfold zK.m zV.m Qd
  have h : ∀ z : Int, (z != z) = false := fun z => by simp
  simp only [h, qI, qN.bind_ok, cond_false, qt]
  split <;> (try rfl)
  split <;> rfl
theorem QR (K : Nat) (x y : PK) : zl.m K x y = .ok (Qd x.often_ y.often_) := by
  unfold zl.m; rw [v5]; rfl
theorem yL (x y : Int) : decide (Qd x y < (0 : Int)) = decide (x < y) := by
  unfold Qd
  by_cases h : x < y
  · rw [if_pos h]; simp [h]
  · rw [if_neg h]; split <;> simp [h]
theorem z9.last {A : List PK} {x : PK} (h : z9 A) (hx : ∀ y, A.getLast? = some y → y.often_ ≤ x.often_) : ∀ y ∈ A, y.often_ ≤ x.often_ := by
  intro y hy
  rcases xW A with rfl | ⟨A', z, rfl⟩
  · cases hy
  · have hz := hx z (by simp)
    rcases List.mem_append.1 hy with h1 | h1
    · have := h.cross y h1 z (by simp); omega
    · simp at h1; subst h1; exact hz
theorem SS.ins {A1 A2 : List PK} {x : PK} (h : z9 (A1 ++ A2)) (h1 : ∀ y ∈ A1, y.often_ ≤ x.often_) (h2 : ∀ y ∈ A2, x.often_ < y.often_) : SS (A1 ++ A2 ++ [x]) (A1 ++ x :: A2) := by
  refine ⟨?_, ?_, fun k => ?_⟩
  · refine z9.append h.left ?_ ?_
    · exact List.pairwise_cons.2 ⟨fun y hy => by have := h2 y hy; omega, h.right⟩
    · intro a ha y hy
      rcases List.mem_cons.1 hy with rfl | hy
      · exact h1 a ha
      · exact h.cross a ha y hy
  · rw [List.append_assoc]
    exact List.Perm.append_left _ (List.perm_append_comm (l₁ := [x]) (l₂ := A2))
  · have := yi (X := A2) (Y := [x]) (fun a ha y hy => by simp at hy; subst hy; exact h2 a ha) k
    rw [List.append_assoc, List.filter_append, List.filter_append (l₁ := A1), this]
    rfl
theorem QW (K : Nat) (g : List PK → Int → qN (List PK)) (i : Nat) (P Q : List PK) (x : PK) (hi : i < 1099511627776) : ∀ (k : Nat) (A B : List PK), A.length < k → (P ++ A ++ x :: (B ++ Q)).length < 1099511627776 →
    ∃ A1 A2, A = A1 ++ A2 ∧ (∀ y ∈ A2, x.often_ < y.often_) ∧ (∀ y, A1.getLast? = some y → y.often_ ≤ x.often_) ∧
      qc.l2 K g (P.length : Int) (i : Int) k (P ++ A ++ x :: (B ++ Q)) ((P.length + A.length : Nat) : Int) = g (P ++ A1 ++ x :: (A2 ++ B ++ Q)) ((i + 1 : Nat) : Int) := by
  intro k
  induction k with
  | zero => intro A B h; omega
  | succ k ih =>
    intro A B h hl
    have hl' := hl
    simp only [List.length_append, List.length_cons] at hl'
    rcases xW A with rfl | ⟨A', y, rfl⟩
    · refine ⟨[], [], rfl, (fun y hy => by cases hy), (fun y hy => by cases hy), ?_⟩
      rw [qc.l2, qt, if_neg (by simp)]
      unfold qc.j3
      rw [cond_false, qI, show ql ((i : Int) + 1) = ((i + 1 : Nat) : Int) from by rw [qw (by omega) (by omega)]; rfl]
      simp
    · simp only [List.length_append, List.length_cons, List.length_nil] at h hl' ⊢
      have ej : (((P.length + (A'.length + (0 + 1)) : Nat)) : Int) = ((P ++ (A' ++ [y])).length : Int) := by simp
      have ej1 : ql (((P.length + (A'.length + (0 + 1)) : Nat) : Int) - 1) = ((P ++ A').length : Int) := by rw [qw (by omega) (by omega)]; simp only [List.length_append]; omega
      have d1 : P ++ (A' ++ [y]) ++ x :: (B ++ Q) = (P ++ A') ++ y :: (x :: (B ++ Q)) := by simp
      have r1 : rd (P ++ (A' ++ [y]) ++ x :: (B ++ Q)) (((P.length + (A'.length + (0 + 1)) : Nat)) : Int) = x := xh _ _ _ ej
      have r2 : rd (P ++ (A' ++ [y]) ++ x :: (B ++ Q)) ((P ++ A').length : Int) = y := by rw [d1]; exact xh _ _ _ rfl
      have b1 : inb (((P.length + (A'.length + (0 + 1)) : Nat)) : Int) (P ++ (A' ++ [y]) ++ x :: (B ++ Q)).length = true := zY _ _ _ ej
      have b2 : inb ((P ++ A').length : Int) (P ++ (A' ++ [y]) ++ x :: (B ++ Q)).length = true := by rw [d1]; exact zY _ _ _ rfl
      rw [qc.l2, qt, if_pos (by omega), b1, qs, ej1, b2, qs, r1, r2, z1, z1, QR, qN.bind_ok, yL]
      unfold qc.j3
      rw [qt]
      by_cases hxy : x.often_ < y.often_
      · rw [if_pos hxy, ej1, b2, qs, b1, qs, r1, r2, z1, z1, qI]
        have s1 : (P ++ (A' ++ [y]) ++ x :: (B ++ Q)).set (Int.toNat (((P.length + (A'.length + (0 + 1)) : Nat)) : Int)) y = (P ++ A') ++ y :: (y :: (B ++ Q)) := by rw [yt _ _ _ _ ej]; simp
        rw [s1, zY _ _ _ rfl, qs, yt _ _ _ _ rfl, qI, qI]
        obtain ⟨A1, A2, h1, h2, h3, h4⟩ := ih A' (y :: B) (by omega) (by simp only [List.length_append, List.length_cons]; omega)
        refine ⟨A1, A2 ++ [y], by rw [h1]; simp, fun z hz => ?_, h3, ?_⟩
        · rcases List.mem_append.1 hz with hz | hz
          · exact h2 z hz
          · simp at hz; subst hz; exact hxy
        · have : ((P ++ A').length : Int) = ((P.length + A'.length : Nat) : Int) := by simp
          rw [this]
          refine h4.trans ?_
          simp
      · refine ⟨A' ++ [y], [], by simp, fun z hz => (by cases hz), fun z hz => ?_, ?_⟩
        · simp at hz; subst hz; omega
        · rw [if_neg hxy, qI, show ql ((i : Int) + 1) = ((i + 1 : Nat) : Int) from by rw [qw (by omega) (by omega)]; rfl]
          simp
theorem SS.snoc {S0 S S' : List PK} {x : PK} (h : SS S0 S) (h' : SS (S ++ [x]) S') : SS (S0 ++ [x]) S' :=
  ⟨h'.1, h'.2.1.trans (h.2.1.append_right _), fun k => by rw [h'.2.2 k, List.filter_append, h.2.2 k, ← List.filter_append]⟩
theorem uF (K : Nat) (P Q : List PK) (hK : (1099511627776 : Nat) > K) : ∀ (T S0 S : List PK) (k : Nat), SS S0 S → 0 < S.length → T.length < k → (P ++ S ++ T ++ Q).length < K →
    ∃ S', SS (S0 ++ T) S' ∧ qc.l1 K (P.length : Int) ((P.length + S.length + T.length : Nat) : Int) k (P ++ S ++ T ++ Q) ((P.length + S.length : Nat) : Int) = .ok (P ++ S' ++ Q)
  | [], S0, S, k, hs, h0, hk, hl => by
    obtain ⟨k, rfl⟩ : ∃ m, k = m + 1 := ⟨k - 1, by simp at hk; omega⟩
    refine ⟨S, by simpa using hs, ?_⟩
    rw [qc.l1, qt, if_neg (by simp)]
    simp
  | x :: T, S0, S, k, hs, h0, hk, hl => by
    obtain ⟨k, rfl⟩ : ∃ m, k = m + 1 := ⟨k - 1, by simp at hk; omega⟩
    simp only [List.length_cons, List.length_append] at hk hl
    rw [qc.l1, qt, if_pos (by simp only [List.length_cons]; omega)]
    obtain ⟨A1, A2, h1, h2, h3, h4⟩ := QW K (qc.l1 K (P.length : Int) ((P.length + S.length + (x :: T).length : Nat) : Int) k) (P.length + S.length) P (T ++ Q) x (by omega) K S []
      (by omega) (by simp only [List.length_append, List.length_cons, List.length_nil]; omega)
    simp only [List.nil_append, List.append_nil] at h4
    rw [show P ++ S ++ x :: T ++ Q = P ++ S ++ x :: (T ++ Q) from by simp, h4]
    subst h1
    have hss := SS.ins hs.1 (hs.1.left.last h3) h2
    simp only [List.length_append] at hl
    obtain ⟨S', g1, g2⟩ := uF K P Q hK T (S0 ++ [x]) (A1 ++ x :: A2) k (hs.snoc hss) (by simp only [List.length_append, List.length_cons]; omega) (by omega) (by simp only [List.length_append, List.length_cons]; omega)
    refine ⟨S', by simpa using g1, ?_⟩
    rw [← g2]
    simp only [List.length_append, List.length_cons, List.append_assoc, List.cons_append]
    congr 2 <;> (simp only [Nat.add_assoc]; congr 1 <;> omega)
theorem jX (K : Nat) (P S Q : List PK) (hK : (1099511627776 : Nat) > K) (hl : (P ++ S ++ Q).length + 1 < K) {a b : Int} (ha : a = (P.length : Int)) (hb : b = ((P.length + S.length : Nat) : Int)) :
    ∃ S', SS S S' ∧ qc.m K (P ++ S ++ Q) a b = .ok (P ++ S' ++ Q) := by
  subst ha; subst hb
  unfold qc.m
  have hl' := hl
  simp only [List.length_append] at hl'
  rw [qI, show ql ((P.length : Int) + 1) = ((P.length + 1 : Nat) : Int) from by rw [qw (by omega) (by omega)]; rfl]
  cases S with
  | nil =>
    refine ⟨[], ⟨List.Pairwise.nil, List.Perm.refl _, fun _ => rfl⟩, ?_⟩
    obtain ⟨k, rfl⟩ : ∃ m, K = m + 1 := ⟨K - 1, by omega⟩
    rw [qc.l1, qt, if_neg (by simp only [List.length_nil]; omega)]
  | cons x S =>
    simp only [List.length_cons] at hl'
    obtain ⟨S', h1, h2⟩ := uF K P Q hK S [x] [x] K (SS.refl (List.pairwise_singleton _ _)) (by simp) (by omega) (by simp only [List.length_append, List.length_cons, List.length_nil]; omega)
    refine ⟨S', by simpa using h1, ?_⟩
    rw [← h2]
    simp only [List.length_cons, List.length_nil, List.append_assoc, List.cons_append, List.nil_append]
    congr 2
    omega
end Go.Pu

set_option maxRecDepth 100000
namespace Go.Pu
open Go Go.Sl Go.Mo
theorem uE {i j : Nat} (h : i + j < 1099511627776) : wr .i64 (yk .u64 (wr .u64 (ql ((i : Int) + (j : Int)))) 1) = (((i + j) / 2 : Nat) : Int) := by
  rw [show ql ((i : Int) + (j : Int)) = ((i + j : Nat) : Int) from by rw [qw (by omega) (by omega)]; rfl, xX (by omega) (by omega)]
  have := Qn (k := .u64) (a := i + j) (n := 1) (by decide)
  rw [show ((1 : Nat) : Int) = 1 from rfl] at this
  rw [this, QK (by omega) (by omega)]
theorem y7 {α : Type} [Inhabited α] (X Y : List α) (t : Nat) : rd (X ++ Y) ((X.length + t : Nat) : Int) = rd Y (t : Int) := by
  simp only [rd, Int.toNat_natCast, List.getD]
  rw [List.getElem?_append_right (by omega), Nat.add_sub_cancel_left]
theorem z8 {α : Type} [Inhabited α] (X Y : List α) {t : Nat} (h : t < X.length) : rd (X ++ Y) (t : Int) = rd X (t : Int) := by
  simp only [rd, Int.toNat_natCast, List.getD]
  rw [List.getElem?_append_left h]
theorem z4 {α : Type} [Inhabited α] {X : List α} {x : α} (h : x ∈ X) : ∃ i, i < X.length ∧ x = rd X (i : Int) := by
  obtain ⟨i, hi, rfl⟩ := List.getElem_of_mem h
  exact ⟨i, hi, by simp [rd, List.getD, hi]⟩
theorem vx {α : Type} [Inhabited α] {X : List α} {n t : Nat} (h : t < n) : rd (X.take n) (t : Int) = rd X (t : Int) := by
  simp only [rd, Int.toNat_natCast, List.getD, List.getElem?_take, if_pos h]
theorem vw {α : Type} [Inhabited α] {X : List α} {n t : Nat} : rd (X.drop n) (t : Int) = rd X ((n + t : Nat) : Int) := by
  simp only [rd, Int.toNat_natCast, List.getD, List.getElem?_drop]
theorem z9.rd {X : List PK} (h : z9 X) {i j : Nat} (hij : i ≤ j) (hj : j < X.length) : (Sl.rd X (i : Int)).often_ ≤ (Sl.rd X (j : Int)).often_ := by
  by_cases he : i = j
  · subst he; exact Int.le_refl _
  · have := List.pairwise_iff_getElem.1 h i j (by omega) hj (by omega)
    have h1 : i < X.length := by omega
    simp only [Sl.rd, Int.toNat_natCast, List.getD, List.getElem?_eq_getElem h1, List.getElem?_eq_getElem hj]
    exact this
theorem jz {i n : Nat} (h : i < n) : inb (i : Int) n = true := by simp only [inb, decide_eq_true_eq]; omega
theorem Zn (K : Nat) (rc : List PK → Int → Int → Int → qN (List PK)) (P B Q : List PK) (x : PK) (hB : z9 B) (hl : (P ++ [x] ++ B ++ Q).length < 549755813888) : ∀ (k i j : Nat), i ≤ j → j ≤ B.length → j - i < k →
    (∀ t, t < i → (rd B (t : Int)).often_ < x.often_) → (∀ t, j ≤ t → t < B.length → x.often_ ≤ (rd B (t : Int)).often_) →
    ∃ q, q ≤ B.length ∧ (∀ t, t < q → (rd B (t : Int)).often_ < x.often_) ∧ (∀ t, q ≤ t → t < B.length → x.often_ ≤ (rd B (t : Int)).often_) ∧
      qa.l1 K rc (P ++ [x] ++ B ++ Q) (P.length : Int) k ((P.length + 1 + i : Nat) : Int) ((P.length + 1 + j : Nat) : Int) =
        qa.j2 K rc (P ++ [x] ++ B ++ Q) (P.length : Int) ((P.length + 1 + q : Nat) : Int) := by
  intro k
  induction k with
  | zero => intro i j h1 h2 h3; omega
  | succ k ih =>
    intro i j h1 h2 h3 hlo hhi
    have hl' := hl
    simp only [List.length_append, List.length_cons, List.length_nil] at hl'
    rw [qa.l1, qt]
    by_cases hij : i < j
    · rw [if_pos (by omega), uE (by omega), qI]
      obtain ⟨h, hh⟩ : ∃ h, (P.length + 1 + i + (P.length + 1 + j)) / 2 = P.length + 1 + h := ⟨(P.length + 1 + i + (P.length + 1 + j)) / 2 - (P.length + 1), by omega⟩
      have hi1 : i ≤ h := by omega
      have hi2 : h < j := by omega
      have r1 : rd (P ++ [x] ++ B ++ Q) ((P.length + 1 + h : Nat) : Int) = rd B (h : Int) := by
        have := y7 (P ++ [x]) (B ++ Q) h
        rw [z8 B Q (by omega)] at this
        simpa using this
      have r2 : rd (P ++ [x] ++ B ++ Q) (P.length : Int) = x := by
        rw [show P ++ [x] ++ B ++ Q = P ++ x :: (B ++ Q) from by simp]; exact xh _ _ _ rfl
      rw [hh, jz (by simp only [List.length_append, List.length_cons, List.length_nil]; omega), qs, jz (by simp only [List.length_append, List.length_cons, List.length_nil]; omega), qs, r1, r2, z1, z1, QR, qN.bind_ok, yL, qt]
      by_cases hc : (rd B (h : Int)).often_ < x.often_
      · rw [if_pos hc, qI, show ql (((P.length + 1 + h : Nat) : Int) + 1) = ((P.length + 1 + (h + 1) : Nat) : Int) from by rw [qw (by omega) (by omega)]; omega]
        exact ih (h + 1) j (by omega) h2 (by omega) (fun t ht => by have := hB.rd (i := t) (j := h) (by omega) (by omega); omega) hhi
      · rw [if_neg hc]
        exact ih i h hi1 (by omega) (by omega) hlo (fun t ht htl => by have := hB.rd (i := h) (j := t) ht htl; omega)
    · rw [if_neg (by omega)]
      have : i = j := by omega
      subst this
      exact ⟨i, h2, hlo, hhi, rfl⟩
theorem Ze (K : Nat) (rc : List PK → Int → Int → Int → qN (List PK)) (x : PK) : ∀ (D P Q : List PK) (k : Nat), D.length < k → (P ++ x :: (D ++ Q)).length < 549755813888 → ∀ i : Int, i = ((P.length + 1 + D.length : Nat) : Int) →
    qa.l3 K rc i k (P ++ x :: (D ++ Q)) (P.length : Int) = .ok (P ++ D ++ x :: Q)
  | [], P, Q, k, hk, hl, i, hi => by
    obtain ⟨k, rfl⟩ : ∃ m, k = m + 1 := ⟨k - 1, by simp at hk; omega⟩
    simp only [List.length_append, List.length_cons, List.length_nil] at hl hi
    subst hi
    rw [qa.l3, qt, if_neg (by rw [qw (by omega) (by omega)]; omega)]
    simp
  | y :: D, P, Q, k, hk, hl, i, hi => by
    obtain ⟨k, rfl⟩ : ∃ m, k = m + 1 := ⟨k - 1, by simp at hk; omega⟩
    simp only [List.length_append, List.length_cons] at hl hi hk
    have ih := Ze K rc x D (P ++ [y]) Q k (by omega) (by simp only [List.length_append, List.length_cons, List.length_nil]; omega) i (by rw [hi]; simp only [List.length_append, List.length_cons, List.length_nil]; omega)
    subst hi
    have e1 : ql ((P.length : Int) + 1) = ((P ++ [x]).length : Int) := by rw [qw (by omega) (by omega)]; simp
    have d1 : P ++ x :: (y :: D ++ Q) = (P ++ [x]) ++ y :: (D ++ Q) := by simp
    have r1 : rd (P ++ x :: (y :: D ++ Q)) ((P ++ [x]).length : Int) = y := by rw [d1]; exact xh _ _ _ rfl
    have r2 : rd (P ++ x :: (y :: D ++ Q)) (P.length : Int) = x := xh _ _ _ rfl
    have b1 : inb ((P ++ [x]).length : Int) (P ++ x :: (y :: D ++ Q)).length = true := by rw [d1]; exact zY _ _ _ rfl
    rw [qa.l3, qt, if_pos (by rw [qw (by omega) (by omega)]; omega), e1, b1, qs, zY _ _ _ rfl, qs, r1, r2, z1, z1, yt _ _ _ _ rfl, qI]
    have d2 : P ++ y :: (y :: D ++ Q) = (P ++ [y]) ++ y :: (D ++ Q) := by simp
    have e2 : ((P ++ [x]).length : Int) = ((P ++ [y]).length : Int) := by simp
    rw [d2, e2, zY _ _ _ rfl, qs, yt _ _ _ _ rfl, qI, qI, ih]
    simp
theorem Zm (K : Nat) (rc : List PK → Int → Int → Int → qN (List PK)) (P A Q : List PK) (x : PK) (hA : z9 A) (hl : (P ++ A ++ x :: Q).length < 549755813888) : ∀ (k i j : Nat), i ≤ j → j ≤ A.length → j - i < k →
    (∀ t, t < i → (rd A (t : Int)).often_ ≤ x.often_) → (∀ t, j ≤ t → t < A.length → x.often_ < (rd A (t : Int)).often_) →
    ∃ q, q ≤ A.length ∧ (∀ t, t < q → (rd A (t : Int)).often_ ≤ x.often_) ∧ (∀ t, q ≤ t → t < A.length → x.often_ < (rd A (t : Int)).often_) ∧
      qa.l5 K rc (P ++ A ++ x :: Q) ((P.length + A.length : Nat) : Int) k ((P.length + i : Nat) : Int) ((P.length + j : Nat) : Int) =
        qa.j6 K rc (P ++ A ++ x :: Q) ((P.length + A.length : Nat) : Int) ((P.length + q : Nat) : Int) := by
  intro k
  induction k with
  | zero => intro i j h1 h2 h3; omega
  | succ k ih =>
    intro i j h1 h2 h3 hlo hhi
    have hl' := hl
    simp only [List.length_append, List.length_cons] at hl'
    rw [qa.l5, qt]
    by_cases hij : i < j
    · rw [if_pos (by omega), uE (by omega), qI]
      obtain ⟨h, hh⟩ : ∃ h, (P.length + i + (P.length + j)) / 2 = P.length + h := ⟨(P.length + i + (P.length + j)) / 2 - P.length, by omega⟩
      have hi1 : i ≤ h := by omega
      have hi2 : h < j := by omega
      have r1 : rd (P ++ A ++ x :: Q) ((P.length + h : Nat) : Int) = rd A (h : Int) := by
        have := y7 P (A ++ x :: Q) h
        rw [z8 A (x :: Q) (by omega)] at this
        simpa using this
      have r2 : rd (P ++ A ++ x :: Q) ((P.length + A.length : Nat) : Int) = x := xh _ _ _ (by simp)
      rw [hh, jz (by simp only [List.length_append, List.length_cons]; omega), qs, jz (by simp only [List.length_append, List.length_cons]; omega), qs, r1, r2, z1, z1, QR, qN.bind_ok, yL, vF, qt]
      by_cases hc : x.often_ < (rd A (h : Int)).often_
      · rw [if_pos hc]
        exact ih i h hi1 (by omega) (by omega) hlo (fun t ht htl => by have := hA.rd (i := h) (j := t) ht htl; omega)
      · rw [if_neg hc, qI, show ql (((P.length + h : Nat) : Int) + 1) = ((P.length + (h + 1) : Nat) : Int) from by rw [qw (by omega) (by omega)]; omega]
        exact ih (h + 1) j (by omega) h2 (by omega) (fun t ht => by have := hA.rd (i := t) (j := h) (by omega) (by omega); omega) hhi
    · rw [if_neg (by omega)]
      have : i = j := by omega
      subst this
      exact ⟨i, h2, hlo, hhi, rfl⟩
theorem ZZ (K : Nat) (rc : List PK → Int → Int → Int → qN (List PK)) (x : PK) (P : List PK) : ∀ (k : Nat) (D Q : List PK), D.length < k → (P ++ D ++ x :: Q).length < 549755813888 →
    qa.l7 K rc (P.length : Int) k (P ++ D ++ x :: Q) ((P.length + D.length : Nat) : Int) = .ok (P ++ x :: (D ++ Q)) := by
  intro k
  induction k with
  | zero => intro D Q h; omega
  | succ k ih =>
    intro D Q hk hl
    simp only [List.length_append, List.length_cons] at hl
    rcases xW D with rfl | ⟨D', y, rfl⟩
    · rw [qa.l7, qt, if_neg (by simp)]; simp
    · simp only [List.length_append, List.length_cons, List.length_nil] at hl hk ⊢
      have ej : (((P.length + (D'.length + (0 + 1)) : Nat)) : Int) = ((P ++ (D' ++ [y])).length : Int) := by simp
      have ej1 : ql (((P.length + (D'.length + (0 + 1)) : Nat) : Int) - 1) = ((P ++ D').length : Int) := by rw [qw (by omega) (by omega)]; simp only [List.length_append]; omega
      have d1 : P ++ (D' ++ [y]) ++ x :: Q = (P ++ D') ++ y :: (x :: Q) := by simp
      have r1 : rd (P ++ (D' ++ [y]) ++ x :: Q) (((P.length + (D'.length + (0 + 1)) : Nat)) : Int) = x := xh _ _ _ ej
      have r2 : rd (P ++ (D' ++ [y]) ++ x :: Q) ((P ++ D').length : Int) = y := by rw [d1]; exact xh _ _ _ rfl
      have b1 : inb (((P.length + (D'.length + (0 + 1)) : Nat)) : Int) (P ++ (D' ++ [y]) ++ x :: Q).length = true := zY _ _ _ ej
      have b2 : inb ((P ++ D').length : Int) (P ++ (D' ++ [y]) ++ x :: Q).length = true := by rw [d1]; exact zY _ _ _ rfl
      have s1 : (P ++ (D' ++ [y]) ++ x :: Q).set (Int.toNat (((P.length + (D'.length + (0 + 1)) : Nat)) : Int)) y = (P ++ D') ++ y :: (y :: Q) := by rw [yt _ _ _ _ ej]; simp
      rw [qa.l7, qt, if_pos (by omega), ej1, b2, qs, b1, qs, r1, r2, z1, z1, s1, qI, zY _ _ _ rfl, qs, yt _ _ _ _ rfl, qI, qI]
      have := ih D' (y :: Q) (by omega) (by simp only [List.length_append, List.length_cons]; omega)
      rw [show ((P ++ D').length : Int) = ((P.length + D'.length : Nat) : Int) from by simp, this]
      simp
theorem Z6 (K : Nat) (rc : List PK → Int → Int → Int → qN (List PK)) (P B Q : List PK) (x : PK) (hB : z9 B) (hl : (P ++ [x] ++ B ++ Q).length < 549755813888) (hK : B.length < K) :
    ∃ M, SS ([x] ++ B) M ∧ qa.l1 K rc (P ++ [x] ++ B ++ Q) (P.length : Int) K ((P.length + 1 : Nat) : Int) ((P.length + 1 + B.length : Nat) : Int) = .ok (P ++ M ++ Q) := by
  obtain ⟨q, h1, h2, h3, h4⟩ := Zn K rc P B Q x hB hl K 0 B.length (by omega) (by omega) (by omega) (fun t ht => by omega) (fun t ht htl => by omega)
  have hq : (B.take q).length = q := by rw [List.length_take]; omega
  refine ⟨B.take q ++ x :: B.drop q, ⟨?_, ?_, fun k => ?_⟩, ?_⟩
  · refine z9.append (A := B.take q) (hB.sublist (List.take_sublist ..)) (List.pairwise_cons.2 ⟨fun y hy => ?_, hB.sublist (List.drop_sublist ..)⟩) fun a ha y hy => ?_
    · obtain ⟨i, hi, rfl⟩ := z4 hy
      rw [List.length_drop] at hi
      rw [vw]; exact h3 _ (by omega) (by omega)
    · obtain ⟨i, hi, rfl⟩ := z4 ha
      rw [hq] at hi
      rw [vx hi]
      have hax := h2 i hi
      rcases List.mem_cons.1 hy with rfl | hy
      · omega
      · obtain ⟨j, hj, rfl⟩ := z4 hy
        rw [List.length_drop] at hj
        rw [vw]; exact hB.rd (by omega) (by omega)
  · refine List.Perm.trans ?_ (List.Perm.of_eq (by simp : [x] ++ (B.take q ++ B.drop q) = [x] ++ B))
    rw [← List.append_assoc, show B.take q ++ x :: B.drop q = (B.take q ++ [x]) ++ B.drop q from by simp]
    exact List.Perm.append_right _ List.perm_append_comm
  · have := yi (X := [x]) (Y := B.take q) (fun a ha y hy => by
      simp at ha; subst ha
      obtain ⟨i, hi, rfl⟩ := z4 hy
      rw [hq] at hi
      rw [vx hi]; exact h2 i hi) k
    rw [show B.take q ++ x :: B.drop q = (B.take q ++ [x]) ++ B.drop q from by simp, List.filter_append, ← this, ← List.filter_append, List.append_assoc, List.take_append_drop]
  · rw [show ((P.length + 1 + 0 : Nat) : Int) = ((P.length + 1 : Nat) : Int) from rfl] at h4
    rw [h4]
    unfold qa.j2
    have hl' := hl
    simp only [List.length_append, List.length_cons, List.length_nil] at hl'
    have := Ze K rc x (B.take q) P (B.drop q ++ Q) K (by omega) (by simp only [List.length_append, List.length_cons, List.length_drop]; omega) ((P.length + 1 + q : Nat) : Int) (by rw [hq])
    rw [show P ++ x :: (B.take q ++ (B.drop q ++ Q)) = P ++ [x] ++ B ++ Q from by rw [← List.append_assoc (B.take q), List.take_append_drop]; simp] at this
    rw [this]
    simp
theorem Z5 (K : Nat) (rc : List PK → Int → Int → Int → qN (List PK)) (P A Q : List PK) (x : PK) (hA : z9 A) (hl : (P ++ A ++ x :: Q).length < 549755813888) (hK : A.length < K) :
    ∃ M, SS (A ++ [x]) M ∧ qa.l5 K rc (P ++ A ++ x :: Q) ((P.length + A.length : Nat) : Int) K (P.length : Int) ((P.length + A.length : Nat) : Int) = .ok (P ++ M ++ Q) := by
  obtain ⟨q, h1, h2, h3, h4⟩ := Zm K rc P A Q x hA hl K 0 A.length (by omega) (by omega) (by omega) (fun t ht => by omega) (fun t ht htl => by omega)
  have hq : (A.take q).length = q := by rw [List.length_take]; omega
  refine ⟨A.take q ++ x :: A.drop q, ?_, ?_⟩
  · have := SS.ins (A1 := A.take q) (A2 := A.drop q) (x := x) (by rw [List.take_append_drop]; exact hA) (fun y hy => by
      obtain ⟨i, hi, rfl⟩ := z4 hy
      rw [hq] at hi
      rw [vx hi]; exact h2 i hi) (fun y hy => by
      obtain ⟨i, hi, rfl⟩ := z4 hy
      rw [List.length_drop] at hi
      rw [vw]; exact h3 _ (by omega) (by omega))
    rwa [List.take_append_drop] at this
  · rw [show ((P.length + 0 : Nat) : Int) = (P.length : Int) from rfl] at h4
    rw [h4]
    unfold qa.j6
    have hl' := hl
    simp only [List.length_append, List.length_cons] at hl'
    have := ZZ K rc x (P ++ A.take q) K (A.drop q) Q (by rw [List.length_drop]; omega) (by simp only [List.length_append, List.length_cons, List.length_drop, hq]; omega)
    rw [show P ++ A.take q ++ A.drop q ++ x :: Q = P ++ A ++ x :: Q from by rw [List.append_assoc P, List.take_append_drop], show ((P ++ A.take q).length + (A.drop q).length : Nat) = P.length + A.length from by simp only [List.length_append, List.length_drop, hq]; omega,
      show ((P ++ A.take q).length : Int) = ((P.length + q : Nat) : Int) from by simp only [List.length_append, hq]] at this
    rw [this]
    simp
end Go.Pu

set_option maxRecDepth 100000
namespace Go.Pu
open Go Go.Sl Go.Mo
theorem SS.join {A1 A2 B1 B2 M1 M2 : List PK} (h1 : SS (A1 ++ B1) M1) (h2 : SS (A2 ++ B2) M2) (hA : z9 (A1 ++ A2)) (hB : z9 (B1 ++ B2)) (h12 : ∀ x ∈ A1, ∀ y ∈ B2, x.often_ ≤ y.often_) (h21 : ∀ x ∈ B1, ∀ y ∈ A2, x.often_ < y.often_) :
    SS ((A1 ++ A2) ++ (B1 ++ B2)) (M1 ++ M2) := by
  refine ⟨z9.append h1.1 h2.1 fun x hx y hy => ?_, ?_, fun k => ?_⟩
  · have hx' := h1.2.1.mem_iff.1 hx
    have hy' := h2.2.1.mem_iff.1 hy
    rcases List.mem_append.1 hx' with hx' | hx' <;> rcases List.mem_append.1 hy' with hy' | hy'
    · exact hA.cross x hx' y hy'
    · exact h12 x hx' y hy'
    · exact Int.le_of_lt (h21 x hx' y hy')
    · exact hB.cross x hx' y hy'
  · refine (h1.2.1.append h2.2.1).trans ?_
    simp only [List.append_assoc]
    refine List.Perm.append_left _ ?_
    rw [← List.append_assoc, ← List.append_assoc]
    exact List.Perm.append_right _ List.perm_append_comm
  · have := yi (X := A2) (Y := B1) (fun x hx y hy => h21 y hy x hx) k
    simp only [List.filter_append] at this
    simp only [List.filter_append, h1.2.2 k, h2.2.2 k]
    rw [List.append_assoc, List.append_assoc, ← List.append_assoc (List.filter _ B1), ← this]
    simp only [List.append_assoc]
section
variable (K : Nat) (rc : List PK → Int → Int → Int → qN (List PK)) (P A B Q : List PK)
theorem ZO (hA : z9 A) (hB : z9 B) (hl : (P ++ A ++ B ++ Q).length < 274877906944) (mid : Nat) (hmid : 2 * mid ≤ 2 * P.length + A.length + B.length) (hmid2 : P.length ≤ mid) {md n_ p_ a_ m_ b_ : Int} (hn : n_ = ((mid + (P.length + A.length) : Nat) : Int)) (hp : p_ = ((mid + (P.length + A.length) : Nat) : Int) - 1) :
    ∀ (k s r : Nat), s ≤ r → r ≤ A.length → P.length + r ≤ mid → mid ≤ P.length + s + B.length → r - s < k → (∀ t, t < s → t < A.length → ∀ j, mid - P.length - s ≤ j → j < B.length → (rd A (t : Int)).often_ ≤ (rd B (j : Int)).often_) →
    (∀ t, r ≤ t → t < A.length → ∀ j, j < mid - P.length - r → (rd B (j : Int)).often_ < (rd A (t : Int)).often_) →
    ∃ q, s ≤ q ∧ q ≤ r ∧ (∀ t, t < q → t < A.length → ∀ j, mid - P.length - q ≤ j → j < B.length → (rd A (t : Int)).often_ ≤ (rd B (j : Int)).often_) ∧
      (∀ t, q ≤ t → t < A.length → ∀ j, j < mid - P.length - q → (rd B (j : Int)).often_ < (rd A (t : Int)).often_) ∧
      qa.l10 K rc (P ++ A ++ B ++ Q) a_ m_ b_ md n_ p_ k ((P.length + s : Nat) : Int) ((P.length + r : Nat) : Int) =
        qa.j11 K rc (P ++ A ++ B ++ Q) a_ m_ b_ md n_ ((P.length + q : Nat) : Int) := by
  intro k
  induction k with
  | zero => intro s r h1 h2 h3 h4 h5; omega
  | succ k ih =>
    intro s r h1 h2 h3 h4 h5 hlo hhi
    have hl' := hl
    simp only [List.length_append] at hl'
    rw [qa.l10, qt]
    by_cases hsr : s < r
    · rw [if_pos (by omega), uE (by omega), qI]
      obtain ⟨c, hc⟩ : ∃ c, (P.length + s + (P.length + r)) / 2 = P.length + c := ⟨(P.length + s + (P.length + r)) / 2 - P.length, by omega⟩
      have hc1 : s ≤ c := by omega
      have hc2 : c < r := by omega
      -- the place in B
      obtain ⟨j, hj⟩ : ∃ j, mid - P.length - 1 - c = j := ⟨_, rfl⟩
      have hjl : j < B.length := by omega
      have e1 : ql (p_ - ((P.length + c : Nat) : Int)) = ((P.length + A.length + j : Nat) : Int) := by subst hp; rw [qw (by omega) (by omega)]; omega
      have r1 : rd (P ++ A ++ B ++ Q) ((P.length + A.length + j : Nat) : Int) = rd B (j : Int) := by
        have := y7 (P ++ A) (B ++ Q) j
        rw [z8 B Q hjl] at this
        simpa using this
      have r2 : rd (P ++ A ++ B ++ Q) ((P.length + c : Nat) : Int) = rd A (c : Int) := by
        have := y7 P (A ++ (B ++ Q)) c
        rw [z8 A (B ++ Q) (by omega)] at this
        simpa using this
      rw [hc, e1, jz (by simp only [List.length_append]; omega), qs, jz (by simp only [List.length_append]; omega), qs, r1, r2, z1, z1, QR, qN.bind_ok, yL, vF, qt]
      by_cases hlt : (rd B (j : Int)).often_ < (rd A (c : Int)).often_
      · rw [if_pos hlt]
        obtain ⟨q, q1, q2, q3⟩ := ih s c hc1 (by omega) (by omega) h4 (by omega) hlo (fun t ht htl i hi => by
          have g1 := hA.rd (i := c) (j := t) ht htl
          have g2 := hB.rd (i := i) (j := j) (by omega) hjl
          omega)
        exact ⟨q, q1, by omega, q3⟩
      · rw [if_neg hlt, qI, show ql (((P.length + c : Nat) : Int) + 1) = ((P.length + (c + 1) : Nat) : Int) from by rw [qw (by omega) (by omega)]; omega]
        obtain ⟨q, q1, q2, q3⟩ := ih (c + 1) r (by omega) h2 h3 (by omega) (by omega) (fun t ht htl i hi hil => by
          have g1 := hA.rd (i := t) (j := c) (by omega) (by omega)
          have g2 := hB.rd (i := j) (j := i) (by omega) hil
          omega) hhi
        exact ⟨q, by omega, q2, q3⟩
    · rw [if_neg (by omega)]
      have : s = r := by omega
      subst this
      exact ⟨s, Nat.le_refl _, Nat.le_refl _, hlo, hhi, rfl⟩
end
theorem QJ (K : Nat) : ∀ (d : Nat) (P A B Q : List PK), z9 A → z9 B → 0 < A.length → 0 < B.length → A.length + B.length ≤ d → (P ++ A ++ B ++ Q).length < 274877906944 → (P ++ A ++ B ++ Q).length < K →
    ∃ M, SS (A ++ B) M ∧ qa.r K d (P ++ A ++ B ++ Q) (P.length : Int) ((P.length + A.length : Nat) : Int) ((P.length + A.length + B.length : Nat) : Int) = .ok (P ++ M ++ Q) := by
  intro d
  induction d with
  | zero => intro P A B Q _ _ h0 h1 h; omega
  | succ d ih =>
    intro P A B Q hA hB hA0 hB0 hd hl hK
    have hl' := hl; have hK' := hK
    simp only [List.length_append] at hl' hK'
    rw [qa.r, qa.b, yN, qw (by omega) (by omega)]
    by_cases hA1 : A.length = 1
    · rw [if_pos (by omega)]
      obtain ⟨x, rfl⟩ := List.length_eq_one_iff.1 hA1
      exact Z6 K _ P B Q x hB (by omega) (by omega)
    rw [if_neg (by omega)]
    unfold qa.j4
    rw [yN, qw (by omega) (by omega)]
    by_cases hB1 : B.length = 1
    · rw [if_pos (by omega)]
      obtain ⟨x, rfl⟩ := List.length_eq_one_iff.1 hB1
      have := Z5 K (qa.r K d) P A Q x hA (by simp only [List.length_append, List.length_cons] at hl ⊢; simp only [List.length_nil] at hl; omega) (by omega)
      simpa using this
    rw [if_neg (by omega)]
    unfold qa.j8
    obtain ⟨mid, hmid⟩ : ∃ mid, (P.length + (P.length + A.length + B.length)) / 2 = mid := ⟨_, rfl⟩
    rw [uE (by omega), hmid, qI, show ql ((mid : Int) + ((P.length + A.length : Nat) : Int)) = ((mid + (P.length + A.length) : Nat) : Int) from by rw [qw (by omega) (by omega)]; omega, qI, qt]
    -- the two ways to begin
    have key : ∃ s0 r0, s0 ≤ r0 ∧ r0 ≤ A.length ∧ P.length + r0 ≤ mid ∧ mid ≤ P.length + s0 + B.length ∧ (s0 = 0 ∨ mid = P.length + s0 + B.length) ∧ (r0 = A.length ∨ P.length + r0 = mid) ∧
        (if ((P.length + A.length : Nat) : Int) > (mid : Int) then lt (ql (((mid + (P.length + A.length) : Nat) : Int) - ((P.length + A.length + B.length : Nat) : Int))) fun start5172 => qa.j9 K (qa.r K d) (P ++ A ++ B ++ Q) (P.length : Int) ((P.length + A.length : Nat) : Int) ((P.length + A.length + B.length : Nat) : Int) (mid : Int) ((mid + (P.length + A.length) : Nat) : Int) start5172 (mid : Int)
          else qa.j9 K (qa.r K d) (P ++ A ++ B ++ Q) (P.length : Int) ((P.length + A.length : Nat) : Int) ((P.length + A.length + B.length : Nat) : Int) (mid : Int) ((mid + (P.length + A.length) : Nat) : Int) (P.length : Int) ((P.length + A.length : Nat) : Int)) =
        qa.j9 K (qa.r K d) (P ++ A ++ B ++ Q) (P.length : Int) ((P.length + A.length : Nat) : Int) ((P.length + A.length + B.length : Nat) : Int) (mid : Int) ((mid + (P.length + A.length) : Nat) : Int) ((P.length + s0 : Nat) : Int) ((P.length + r0 : Nat) : Int) := by
      by_cases hm : ((P.length + A.length : Nat) : Int) > (mid : Int)
      · refine ⟨mid - P.length - B.length, mid - P.length, by omega, by omega, by omega, by omega, by omega, by omega, ?_⟩
        rw [if_pos hm, qI]
        congr 1
        · rw [qw (by omega) (by omega)]; omega
        · omega
      · refine ⟨0, A.length, by omega, by omega, by omega, by omega, by omega, by omega, ?_⟩
        rw [if_neg hm]
        rfl
    obtain ⟨s0, r0, g1, g2, g3, g4, g5, g6, g7⟩ := key
    rw [g7]
    unfold qa.j9
    rw [qI]
    obtain ⟨q, q1, q2, q3, q4, q5⟩ := ZO K (qa.r K d) P A B Q hA hB hl mid (by omega) (by omega) (md := (mid : Int)) (n_ := ((mid + (P.length + A.length) : Nat) : Int)) (p_ := ql (((mid + (P.length + A.length) : Nat) : Int) - 1)) (a_ := (P.length : Int))
      (m_ := ((P.length + A.length : Nat) : Int)) (b_ := ((P.length + A.length + B.length : Nat) : Int)) rfl (qw (by omega) (by omega)) K s0 r0 g1 g2 g3 g4 (by omega) (fun t ht htl j hj hjl => by omega) (fun t ht htl j hj => by omega)
    rw [q5]
    -- the four parts
    obtain ⟨A1, A2, rfl, hA1l⟩ : ∃ A1 A2, A = A1 ++ A2 ∧ A1.length = q := ⟨A.take q, A.drop q, by simp, by rw [List.length_take]; omega⟩
    obtain ⟨B1, B2, rfl, hB1l⟩ : ∃ B1 B2, B = B1 ++ B2 ∧ B1.length = mid - P.length - q := ⟨B.take (mid - P.length - q), B.drop (mid - P.length - q), by simp, by rw [List.length_take]; omega⟩
    have h12 : ∀ x ∈ A1, ∀ y ∈ B2, x.often_ ≤ y.often_ := by
      intro x hx y hy
      obtain ⟨i, hi, rfl⟩ := z4 hx
      obtain ⟨j, hj, rfl⟩ := z4 hy
      have := q3 i (by omega) (by simp only [List.length_append]; omega) (B1.length + j) (by omega) (by simp only [List.length_append]; omega)
      rwa [z8 _ _ hi, y7] at this
    have h21 : ∀ x ∈ B1, ∀ y ∈ A2, x.often_ < y.often_ := by
      intro x hx y hy
      obtain ⟨j, hj, rfl⟩ := z4 hx
      obtain ⟨i, hi, rfl⟩ := z4 hy
      have := q4 (A1.length + i) (by omega) (by simp only [List.length_append]; omega) j (by omega)
      rwa [z8 _ _ hj, y7] at this
    simp only [List.length_append] at hl' hK' hd hA0 hB0 hA1 hB1 g2 g4 g5 g6 hmid
    unfold qa.j11
    rw [show ql (((mid + (P.length + (A1 ++ A2).length) : Nat) : Int) - ((P.length + q : Nat) : Int)) = ((P.length + A1.length + A2.length + B1.length : Nat) : Int) from by simp only [List.length_append]; rw [qw (by omega) (by omega)]; omega, qI]
    -- turned round, or not
    have hrot : ∀ g : List PK → qN (List PK), (cond (decide (((P.length + q : Nat) : Int) < ((P.length + (A1 ++ A2).length : Nat) : Int)) && decide (((P.length + (A1 ++ A2).length : Nat) : Int) < ((P.length + A1.length + A2.length + B1.length : Nat) : Int)))
        ((qj.m K (P ++ (A1 ++ A2) ++ (B1 ++ B2) ++ Q) ((P.length + q : Nat) : Int) ((P.length + (A1 ++ A2).length : Nat) : Int) ((P.length + A1.length + A2.length + B1.length : Nat) : Int)).bind g)
        (g (P ++ (A1 ++ A2) ++ (B1 ++ B2) ++ Q))) = g (P ++ A1 ++ B1 ++ (A2 ++ B2 ++ Q)) := by
      intro g
      simp only [List.length_append]
      by_cases hA2 : A2.length = 0
      · have := List.length_eq_zero_iff.1 hA2
        subst this
        rw [show decide (((P.length + q : Nat) : Int) < ((P.length + (A1.length + ([] : List PK).length) : Nat) : Int)) = false from by simp only [List.length_nil, decide_eq_false_iff_not]; omega]
        simp
      · by_cases hB2 : B1.length = 0
        · have := List.length_eq_zero_iff.1 hB2
          subst this
          rw [show decide (((P.length + (A1.length + A2.length) : Nat) : Int) < ((P.length + A1.length + A2.length + ([] : List PK).length : Nat) : Int)) = false from by simp only [List.length_nil, decide_eq_false_iff_not]; omega]
          simp
        · rw [show decide (((P.length + q : Nat) : Int) < ((P.length + (A1.length + A2.length) : Nat) : Int)) = true from by simp only [decide_eq_true_eq]; omega, show decide (((P.length + (A1.length + A2.length) : Nat) : Int) < ((P.length + A1.length + A2.length + B1.length : Nat) : Int)) = true from by simp only [decide_eq_true_eq]; omega,
            Bool.and_self, cond_true]
          have := Zv K (P ++ A1) A2 B1 (B2 ++ Q) (by omega) (by omega) (by simp only [List.length_append]; omega) (by simp only [List.length_append]; omega) (a := ((P.length + q : Nat) : Int)) (m := ((P.length + (A1.length + A2.length) : Nat) : Int)) (b := ((P.length + A1.length + A2.length + B1.length : Nat) : Int))
            (by simp only [List.length_append]; omega) (by simp only [List.length_append]; omega) (by simp only [List.length_append])
          rw [show P ++ (A1 ++ A2) ++ (B1 ++ B2) ++ Q = P ++ A1 ++ A2 ++ B1 ++ (B2 ++ Q) from by simp, this, qN.bind_ok]
          simp
    rw [hrot]
    unfold qa.j12
    -- the first half
    have hfirst : ∃ M1, SS (A1 ++ B1) M1 ∧ ∀ g : List PK → qN (List PK), (cond (decide ((P.length : Int) < ((P.length + q : Nat) : Int)) && decide (((P.length + q : Nat) : Int) < (mid : Int)))
        ((qa.r K d (P ++ A1 ++ B1 ++ (A2 ++ B2 ++ Q)) (P.length : Int) ((P.length + q : Nat) : Int) (mid : Int)).bind g) (g (P ++ A1 ++ B1 ++ (A2 ++ B2 ++ Q)))) = g (P ++ M1 ++ (A2 ++ B2 ++ Q)) := by
      by_cases h0 : A1.length = 0
      · have := List.length_eq_zero_iff.1 h0
        subst this
        refine ⟨B1, by simpa using SS.refl hB.left, fun g => ?_⟩
        rw [show decide ((P.length : Int) < ((P.length + q : Nat) : Int)) = false from by simp only [decide_eq_false_iff_not]; simp only [List.length_nil] at hA1l; omega]
        simp
      · by_cases h1 : B1.length = 0
        · have := List.length_eq_zero_iff.1 h1
          subst this
          refine ⟨A1, by simpa using SS.refl hA.left, fun g => ?_⟩
          rw [show decide (((P.length + q : Nat) : Int) < (mid : Int)) = false from by simp only [decide_eq_false_iff_not]; simp only [List.length_nil] at hB1l; omega]
          simp
        · obtain ⟨M1, m1, m2⟩ := ih P A1 B1 (A2 ++ B2 ++ Q) hA.left hB.left (by omega) (by omega) (by omega) (by simp only [List.length_append]; omega) (by simp only [List.length_append]; omega)
          refine ⟨M1, m1, fun g => ?_⟩
          rw [show decide ((P.length : Int) < ((P.length + q : Nat) : Int)) = true from by simp only [decide_eq_true_eq]; omega, show decide (((P.length + q : Nat) : Int) < (mid : Int)) = true from by simp only [decide_eq_true_eq]; omega, Bool.and_self, cond_true,
            show ((P.length + q : Nat) : Int) = ((P.length + A1.length : Nat) : Int) from by rw [hA1l], show (mid : Int) = ((P.length + A1.length + B1.length : Nat) : Int) from by omega, m2]
          rfl
    obtain ⟨M1, hM1, hg1⟩ := hfirst
    rw [hg1]
    unfold qa.j13
    have hM1l : M1.length = A1.length + B1.length := by have := hM1.2.1.length_eq; simpa using this
    have hsecond : ∃ M2, SS (A2 ++ B2) M2 ∧ (cond (decide ((mid : Int) < ((P.length + A1.length + A2.length + B1.length : Nat) : Int)) && decide (((P.length + A1.length + A2.length + B1.length : Nat) : Int) < ((P.length + (A1 ++ A2).length + (B1 ++ B2).length : Nat) : Int)))
        ((qa.r K d (P ++ M1 ++ (A2 ++ B2 ++ Q)) (mid : Int) ((P.length + A1.length + A2.length + B1.length : Nat) : Int) ((P.length + (A1 ++ A2).length + (B1 ++ B2).length : Nat) : Int)).bind fun data => .ok data) (.ok (P ++ M1 ++ (A2 ++ B2 ++ Q)))) = .ok (P ++ (M1 ++ M2) ++ Q) := by
      simp only [List.length_append]
      by_cases h0 : A2.length = 0
      · have := List.length_eq_zero_iff.1 h0
        subst this
        refine ⟨B2, by simpa using SS.refl hB.right, ?_⟩
        rw [show decide ((mid : Int) < ((P.length + A1.length + ([] : List PK).length + B1.length : Nat) : Int)) = false from by simp only [List.length_nil, decide_eq_false_iff_not]; omega]
        simp
      · by_cases h1 : B2.length = 0
        · have := List.length_eq_zero_iff.1 h1
          subst this
          refine ⟨A2, by simpa using SS.refl hA.right, ?_⟩
          rw [show decide (((P.length + A1.length + A2.length + B1.length : Nat) : Int) < ((P.length + (A1.length + A2.length) + (B1.length + ([] : List PK).length) : Nat) : Int)) = false from by simp only [List.length_nil, decide_eq_false_iff_not]; omega]
          simp
        · obtain ⟨M2, m1, m2⟩ := ih (P ++ M1) A2 B2 Q hA.right hB.right (by omega) (by omega) (by omega) (by simp only [List.length_append]; omega) (by simp only [List.length_append]; omega)
          refine ⟨M2, m1, ?_⟩
          rw [show decide ((mid : Int) < ((P.length + A1.length + A2.length + B1.length : Nat) : Int)) = true from by simp only [decide_eq_true_eq]; omega, show decide (((P.length + A1.length + A2.length + B1.length : Nat) : Int) < ((P.length + (A1.length + A2.length) + (B1.length + B2.length) : Nat) : Int)) = true from by simp only [decide_eq_true_eq]; omega, Bool.and_self, cond_true]
          rw [show P ++ M1 ++ (A2 ++ B2 ++ Q) = P ++ M1 ++ A2 ++ B2 ++ Q from by simp, show (mid : Int) = ((P ++ M1).length : Int) from by simp only [List.length_append]; omega,
            show ((P.length + A1.length + A2.length + B1.length : Nat) : Int) = (((P ++ M1).length + A2.length : Nat) : Int) from by simp only [List.length_append]; omega,
            show ((P.length + (A1.length + A2.length) + (B1.length + B2.length) : Nat) : Int) = (((P ++ M1).length + A2.length + B2.length : Nat) : Int) from by simp only [List.length_append]; omega, m2]
          simp
    obtain ⟨M2, hM2, hg2⟩ := hsecond
    exact ⟨M1 ++ M2, SS.join hM1 hM2 hA hB h12 h21, hg2⟩
end Go.Pu

set_option maxRecDepth 100000
namespace Go.Pu
open Go Go.Sl Go.Mo
def SF (l l' : List PK) : Prop := l'.Perm l ∧ ∀ k : Int, l'.filter (fun x => x.often_ == k) = l.filter (fun x => x.often_ == k)
theorem SF.refl (l : List PK) : SF l l := ⟨List.Perm.refl _, fun _ => rfl⟩
theorem SF.trans {a b c : List PK} (h : SF a b) (h' : SF b c) : SF a c := ⟨h'.1.trans h.1, fun k => (h'.2 k).trans (h.2 k)⟩
theorem SF.append {a b c d : List PK} (h : SF a b) (h' : SF c d) : SF (a ++ c) (b ++ d) := ⟨h.1.append h'.1, fun k => by rw [List.filter_append, List.filter_append, h.2 k, h'.2 k]⟩
theorem SS.sf {a b : List PK} (h : SS a b) : SF a b := ⟨h.2.1, h.2.2⟩
theorem SS.of {a b : List PK} (h : SF a b) (h' : z9 b) : SS a b := ⟨h', h.1, h.2⟩
theorem SF.len {a b : List PK} (h : SF a b) : b.length = a.length := h.1.length_eq
inductive Bk (bs : Nat) : List PK → Prop
  | last {X : List PK} (h : z9 X) (hl : X.length ≤ bs) : Bk bs X
  | cons {X T : List PK} (h : z9 X) (hl : X.length = bs) (ht : Bk bs T) : Bk bs (X ++ T)
theorem uX (K : Nat) (hK : (1099511627776 : Nat) > K) (N : Nat) (hN : N + 1 < K) : ∀ (k : Nat) (D T : List PK), D.length + T.length = N → T.length < 20 * k →
    ∃ T', SF T T' ∧ Bk 20 T' ∧ qd.l1 K (N : Int) k (D ++ T) (D.length : Int) ((D.length + 20 : Nat) : Int) = qd.l3 K (N : Int) K (D ++ T') 20 := by
  intro k
  induction k with
  | zero => intro D T _ h; omega
  | succ k ih =>
    intro D T h1 h2
    rw [qd.l1, qt]
    by_cases hc : D.length + 20 ≤ N
    · rw [if_pos (by omega)]
      obtain ⟨X, T2, rfl, hX⟩ : ∃ X T2, T = X ++ T2 ∧ X.length = 20 := ⟨T.take 20, T.drop 20, by simp, by rw [List.length_take]; omega⟩
      simp only [List.length_append] at h1 h2
      obtain ⟨X', x1, x2⟩ := jX K D X T2 hK (by simp only [List.length_append]; omega) (a := (D.length : Int)) (b := ((D.length + 20 : Nat) : Int)) rfl (by rw [hX])
      have hX' := x1.sf.len
      obtain ⟨T', t1, t2, t3⟩ := ih (D ++ X') T2 (by simp only [List.length_append]; omega) (by omega)
      refine ⟨X' ++ T', x1.sf.append t1, .cons x1.1 (by omega) t2, ?_⟩
      rw [← List.append_assoc, x2, qN.bind_ok, qI, show ql (((D.length + 20 : Nat) : Int) + 20) = (((D ++ X').length + 20 : Nat) : Int) from by rw [qw (by omega) (by omega)]; simp only [List.length_append]; omega,
        show ((D.length + 20 : Nat) : Int) = ((D ++ X').length : Int) from by simp only [List.length_append]; omega, t3]
      simp
    · rw [if_neg (by omega)]
      unfold qd.j2
      obtain ⟨T', t1, t2⟩ := jX K D T [] hK (by simp only [List.length_append, List.length_nil]; omega) (a := (D.length : Int)) (b := (N : Int)) rfl (by omega)
      refine ⟨T', t1.sf, .last t1.1 (by have := t1.sf.len; omega), ?_⟩
      simp only [List.append_nil] at t2
      rw [t2]; rfl
theorem Bk.two {bs : Nat} {T : List PK} (h : Bk bs T) (hl : 2 * bs ≤ T.length) (hb : 0 < bs) : ∃ X Y T2, T = X ++ Y ++ T2 ∧ X.length = bs ∧ Y.length = bs ∧ z9 X ∧ z9 Y ∧ Bk bs T2 := by
  cases h with
  | last h hl2 => omega
  | @cons X T h hl2 ht =>
    simp only [List.length_append] at hl
    cases ht with
    | last h' hl' => exact ⟨X, T, [], by simp, hl2, by omega, h, h', .last List.Pairwise.nil (by simp)⟩
    | @cons Y T2 h' hl' ht' => exact ⟨X, Y, T2, by simp, hl2, hl', h, h', ht'⟩
theorem Bk.rest {bs : Nat} {T : List PK} (h : Bk bs T) (hl : T.length < 2 * bs) : z9 T ∧ T.length ≤ bs ∨ ∃ X Y, T = X ++ Y ∧ X.length = bs ∧ z9 X ∧ z9 Y ∧ Y.length < bs := by
  cases h with
  | last h hl2 => exact .inl ⟨h, hl2⟩
  | @cons X T h hl2 ht =>
    simp only [List.length_append] at hl
    cases ht with
    | last h' hl' => exact .inr ⟨X, T, rfl, hl2, h, h', by omega⟩
    | @cons Y T2 h' hl' ht' =>
      simp only [List.length_append] at hl; omega
theorem vj (K : Nat) (P A B Q : List PK) (hA : z9 A) (hB : z9 B) (hA0 : 0 < A.length) (hB0 : 0 < B.length) (hl : (P ++ A ++ B ++ Q).length < 274877906944) (hK : (P ++ A ++ B ++ Q).length < K) {a m b : Int} (ha : a = (P.length : Int)) (hm : m = ((P.length + A.length : Nat) : Int)) (hb : b = ((P.length + A.length + B.length : Nat) : Int)) :
    ∃ M, SS (A ++ B) M ∧ qa.m K (P ++ A ++ B ++ Q) a m b = .ok (P ++ M ++ Q) := by
  subst ha; subst hm; subst hb
  exact QJ K K P A B Q hA hB hA0 hB0 (by simp only [List.length_append] at hK; omega) hl hK
theorem vM (K : Nat) (N : Nat) (hN : N + 1 < K) (hN2 : N < 137438953472) (g : List PK → Int → qN (List PK)) (bs : Nat) (hb : 0 < bs) (hb2 : bs < N) : ∀ (k : Nat) (D T : List PK), D.length + T.length = N → T.length < 2 * bs * k → Bk bs T →
    ∃ T', SF T T' ∧ Bk (2 * bs) T' ∧ qd.l4 K g (N : Int) (bs : Int) k (D ++ T) (D.length : Int) ((D.length + 2 * bs : Nat) : Int) = g (D ++ T') ((2 * bs : Nat) : Int) := by
  intro k
  induction k with
  | zero => intro D T _ h; omega
  | succ k ih =>
    intro D T h1 h2 hB
    rw [qd.l4, qt]
    by_cases hc : D.length + 2 * bs ≤ N
    · rw [if_pos (by omega)]
      obtain ⟨X, Y, T2, rfl, hX, hY, sX, sY, hT2⟩ := hB.two (by omega) hb
      simp only [List.length_append] at h1 h2
      obtain ⟨M, m1, m2⟩ := vj K D X Y T2 sX sY (by omega) (by omega) (by simp only [List.length_append]; omega) (by simp only [List.length_append]; omega) (a := (D.length : Int)) (m := ql ((D.length : Int) + (bs : Int))) (b := ((D.length + 2 * bs : Nat) : Int)) rfl
        (by rw [qw (by omega) (by omega)]; omega) (by omega)
      have hM := m1.sf.len
      simp only [List.length_append] at hM
      obtain ⟨T', t1, t2, t3⟩ := ih (D ++ M) T2 (by simp only [List.length_append]; omega) (by rw [Nat.mul_succ] at h2; omega) hT2
      refine ⟨M ++ T', m1.sf.append t1, .cons m1.1 (by omega) t2, ?_⟩
      rw [show D ++ (X ++ Y ++ T2) = D ++ X ++ Y ++ T2 from by simp, m2, qN.bind_ok, qI, show ql (2 * (bs : Int)) = ((2 * bs : Nat) : Int) from by rw [qw (by omega) (by omega)]; omega,
        show ql (((D.length + 2 * bs : Nat) : Int) + ((2 * bs : Nat) : Int)) = (((D ++ M).length + 2 * bs : Nat) : Int) from by rw [qw (by omega) (by omega)]; simp only [List.length_append]; omega,
        show ((D.length + 2 * bs : Nat) : Int) = ((D ++ M).length : Int) from by simp only [List.length_append]; omega, t3]
      simp
    · rw [if_neg (by omega)]
      unfold qd.j5
      rw [show ql ((D.length : Int) + (bs : Int)) = ((D.length + bs : Nat) : Int) from by rw [qw (by omega) (by omega)]; rfl, qI, qt, show ql ((bs : Int) * 2) = ((2 * bs : Nat) : Int) from by rw [qw (by omega) (by omega)]; omega]
      rcases hB.rest (by omega) with ⟨s1, s2⟩ | ⟨X, Y, rfl, hX, sX, sY, hY⟩
      · rw [if_neg (by omega), qI]
        exact ⟨T, SF.refl _, .last s1 (by omega), rfl⟩
      · simp only [List.length_append] at h1 h2
        by_cases hY0 : Y.length = 0
        · rw [if_neg (by omega), qI]
          have := List.length_eq_zero_iff.1 hY0
          subst this
          exact ⟨X ++ [], SF.refl _, .last (by simpa using sX) (by simp; omega), rfl⟩
        · rw [if_pos (by omega)]
          obtain ⟨M, m1, m2⟩ := vj K D X Y [] sX sY (by omega) (by omega) (by simp only [List.length_append, List.length_nil]; omega) (by simp only [List.length_append, List.length_nil]; omega) (a := (D.length : Int)) (m := ((D.length + bs : Nat) : Int)) (b := (N : Int)) rfl (by omega) (by omega)
          refine ⟨M, m1.sf, .last m1.1 (by have := m1.sf.len; simp only [List.length_append] at this; omega), ?_⟩
          simp only [List.append_nil] at m2
          rw [← List.append_assoc, m2, qN.bind_ok, qI]
theorem Bk.srt {bs : Nat} {T : List PK} (h : Bk bs T) (hl : T.length ≤ bs) : z9 T := by
  cases h with
  | last h _ => exact h
  | @cons X T h hl2 ht =>
    simp only [List.length_append] at hl
    have : T = [] := List.length_eq_zero_iff.1 (by omega)
    subst this
    simpa using h
theorem Qu (K : Nat) (N : Nat) (hN : N + 1 < K) (hN2 : N < 137438953472) : ∀ (k : Nat) (bs : Nat) (T : List PK), 0 < bs → T.length = N → N < bs + k → Bk bs T →
    ∃ T', SS T T' ∧ qd.l3 K (N : Int) (k + 1) T (bs : Int) = .ok T' := by
  intro k
  induction k with
  | zero =>
    intro bs T h0 h1 h2 hB
    refine ⟨T, SS.refl (hB.srt (by omega)), ?_⟩
    rw [qd.l3, qt, if_neg (by omega)]
  | succ k ih =>
    intro bs T h0 h1 h2 hB
    rw [qd.l3, qt]
    by_cases hc : bs < N
    · rw [if_pos (by omega), show ql (2 * (bs : Int)) = ((2 * bs : Nat) : Int) from by rw [qw (by omega) (by omega)]; omega, qI]
      have hmul : T.length < 2 * bs * K := by
        have : 1 * K ≤ 2 * bs * K := Nat.mul_le_mul_right K (by omega)
        omega
      obtain ⟨T1, t1, t2, t3⟩ := vM K N hN hN2 (qd.l3 K (N : Int) (k + 1)) bs h0 hc K [] T (by simpa using h1) hmul hB
      obtain ⟨T', s1, s2⟩ := ih (2 * bs) T1 (by omega) (by rw [t1.len]; exact h1) (by omega) t2
      refine ⟨T', SS.of (t1.trans s1.sf) s1.1, ?_⟩
      rw [← s2]
      simpa using t3
    · rw [if_neg (by omega)]
      exact ⟨T, SS.refl (hB.srt (by omega)), rfl⟩
theorem jI (K : Nat) (l : List PK) (hK : (1099511627776 : Nat) > K) (hl : l.length + 1 < K) (hl2 : l.length < 137438953472) :
    ∃ l', SS l l' ∧ qq.m K l = .ok l' := by
  obtain ⟨k, rfl⟩ : ∃ m, K = m + 1 := ⟨K - 1, by omega⟩
  unfold qq.m qd.m
  obtain ⟨T, t1, t2, t3⟩ := uX (k + 1) hK l.length hl (k + 1) [] l (by simp) (by omega)
  obtain ⟨l', s1, s2⟩ := Qu (k + 1) l.length hl hl2 k 20 T (by decide) t1.len (by omega) t2
  refine ⟨l', SS.of (t1.trans s1.sf) s1.1, ?_⟩
  have t3' : qd.l1 (k + 1) (l.length : Int) (k + 1) l 0 20 = qd.l3 (k + 1) (l.length : Int) (k + 1) T 20 := by simpa using t3
  rw [t3', show (20 : Int) = ((20 : Nat) : Int) from rfl, s2]
  rfl
theorem QF : @qq.m = @qq.m := by kernel_rfl
end Go.Pu

set_option maxRecDepth 100000
namespace Go.Pu
open Go Go.Sl Go.Mo
theorem ZQ (K : Nat) (n : Nat) (h : n < 1099511627776) : zi.m K (n : Int) = .ok () := by
  unfold zi.m
  rw [qt, if_neg (by omega), qI, show ql ((n : Int) - ql (0 - 0)) = (n : Int) from by rw [qw (x := 0 - 0) (by omega) (by omega), qw (by omega) (by omega)]; omega, qt]
  by_cases h0 : (n : Int) > 0
  · rw [if_pos h0, show (decide ((0 : Int) < (n : Int)) && room (Int.toNat (n : Int)) 8) = true from by rw [Bool.and_eq_true, decide_eq_true_eq]; exact ⟨h0, z3 (by rw [Int.toNat_natCast]; omega)⟩, qs]
  · rw [if_neg h0]
theorem ZR (K : Nat) (n : Nat) (h : n < 1099511627776) : qL.m K (n : Int) = .ok () := by
  unfold qL.m
  rw [qt, if_neg (by omega), qI, show ql ((n : Int) - ql (0 - 0)) = (n : Int) from by rw [qw (x := 0 - 0) (by omega) (by omega), qw (by omega) (by omega)]; omega, qt]
  by_cases h0 : (n : Int) > 0
  · rw [if_pos h0, show (decide ((0 : Int) < (n : Int)) && room (Int.toNat (n : Int)) 32) = true from by rw [Bool.and_eq_true, decide_eq_true_eq]; exact ⟨h0, z3 (by rw [Int.toNat_natCast]; omega)⟩, qs]
  · rw [if_neg h0]
theorem QS (K : Nat) (a b : List Int) (hK : 3 ≤ K) (h : a.length + b.length < 1099511627776) : qp.m K [a, b] = .ok (a ++ b) := by
  obtain ⟨k, rfl⟩ : ∃ m, K = m + 3 := ⟨K - 3, by omega⟩
  have i0 : inb (0 : Int) ([a, b] : List (List Int)).length = true := rfl
  have i1 : inb (1 : Int) ([a, b] : List (List Int)).length = true := rfl
  have r0 : rd [a, b] (0 : Int) = a := rfl
  have r1 : rd [a, b] (1 : Int) = b := rfl
  have w1 : ql ((0 : Int) + 1) = 1 := rfl
  have w2 : ql ((1 : Int) + 1) = 2 := rfl
  have c0 : decide ((0 : Int) < (([a, b] : List (List Int)).length : Int)) = true := rfl
  have c1 : decide ((1 : Int) < (([a, b] : List (List Int)).length : Int)) = true := rfl
  have c2 : decide ((2 : Int) < (([a, b] : List (List Int)).length : Int)) = false := rfl
  have s1 : ql (0 + (a.length : Int)) = (a.length : Int) := by rw [qw (by omega) (by omega)]; omega
  have s2 : ql ((a.length : Int) + (b.length : Int)) = ((a.length + b.length : Nat) : Int) := by rw [qw (by omega) (by omega)]; omega
  unfold qp.m
  simp only [qp.l1, c0, c1, c2, cond_true, cond_false, i0, i1, qs, r0, r1, s1, s2, qI, w1, w2]
  rw [qt, if_neg (by omega), qt, if_neg (by omega)]
  unfold qp.j2
  rw [ZQ _ _ (by omega), qN.bind_ok]
  simp only [qp.l3, c0, c1, c2, cond_true, cond_false, i0, i1, qs, r0, r1, qI, w1, w2]
  rw [z3 (by simp only [List.length_nil]; omega), qs, z3 (by simp only [List.nil_append]; omega), qs]
  simp
theorem QT (K : Nat) (a b : List PK) (hK : 3 ≤ K) (h : a.length + b.length < 1099511627776) : qi.m K [a, b] = .ok (a ++ b) := by
  obtain ⟨k, rfl⟩ : ∃ m, K = m + 3 := ⟨K - 3, by omega⟩
  have i0 : inb (0 : Int) ([a, b] : List (List PK)).length = true := rfl
  have i1 : inb (1 : Int) ([a, b] : List (List PK)).length = true := rfl
  have r0 : rd [a, b] (0 : Int) = a := rfl
  have r1 : rd [a, b] (1 : Int) = b := rfl
  have w1 : ql ((0 : Int) + 1) = 1 := rfl
  have w2 : ql ((1 : Int) + 1) = 2 := rfl
  have c0 : decide ((0 : Int) < (([a, b] : List (List PK)).length : Int)) = true := rfl
  have c1 : decide ((1 : Int) < (([a, b] : List (List PK)).length : Int)) = true := rfl
  have c2 : decide ((2 : Int) < (([a, b] : List (List PK)).length : Int)) = false := rfl
  have s1 : ql (0 + (a.length : Int)) = (a.length : Int) := by rw [qw (by omega) (by omega)]; omega
  have s2 : ql ((a.length : Int) + (b.length : Int)) = ((a.length + b.length : Nat) : Int) := by rw [qw (by omega) (by omega)]; omega
  unfold qi.m
  simp only [qi.l1, c0, c1, c2, cond_true, cond_false, i0, i1, qs, r0, r1, s1, s2, qI, w1, w2]
  rw [qt, if_neg (by omega), qt, if_neg (by omega)]
  unfold qi.j2
  rw [ZR _ _ (by omega), qN.bind_ok]
  simp only [qi.l3, c0, c1, c2, cond_true, cond_false, i0, i1, qs, r0, r1, qI, w1, w2]
  rw [z3 (by simp only [List.length_nil]; omega), qs, z3 (by simp only [List.nil_append]; omega), qs]
  simp
def prs : List PK → List PK
  | x :: y :: r => ⟨x.often_ + y.often_, x.symbols_ ++ y.symbols_⟩ :: prs r
  | _ => []
theorem xQ : ∀ l : List PK, (prs l).length = l.length / 2
  | [] => rfl
  | [_] => by simp [prs]
  | x :: y :: r => by simp only [prs, List.length_cons, xQ r]; omega
theorem vd (K : Nat) (hK : 3 ≤ K) (N : Nat) (hN : N < 1073741824) : ∀ (R D O : List PK) (k : Nat), (D ++ R).length = N → 2 * O.length ≤ D.length → R.length < 2 * k → (∀ p ∈ R, 0 ≤ p.often_ ∧ p.often_ < 4611686018427387904 ∧ p.symbols_.length < 1073741824) →
    zq.l1 K (D ++ R) k O (D.length : Int) = .ok (O ++ prs R)
  | [], D, O, k, h1, h3, h2, hb => by
    obtain ⟨k, rfl⟩ : ∃ m, k = m + 1 := ⟨k - 1, by simp at h2; omega⟩
    simp only [List.length_append, List.length_nil] at h1
    rw [zq.l1, qw (by omega) (by omega), qt, if_neg (by simp only [List.append_nil]; omega)]
    simp [prs]
  | [x], D, O, k, h1, h3, h2, hb => by
    obtain ⟨k, rfl⟩ : ∃ m, k = m + 1 := ⟨k - 1, by simp at h2; omega⟩
    simp only [List.length_append, List.length_cons, List.length_nil] at h1
    rw [zq.l1, qw (by omega) (by omega), qt, if_neg (by simp only [List.length_append, List.length_cons, List.length_nil]; omega)]
    simp [prs]
  | x :: y :: R, D, O, k, h1, h3, h2, hb => by
    obtain ⟨k, rfl⟩ : ∃ m, k = m + 1 := ⟨k - 1, by simp at h2; omega⟩
    have h1' := h1
    simp only [List.length_append, List.length_cons] at h1 h2
    have hx := hb x (by simp)
    have hy := hb y (by simp)
    have e1 : ql ((D.length : Int) + 1) = ((D ++ [x]).length : Int) := by rw [qw (by omega) (by omega)]; simp
    have d1 : D ++ x :: y :: R = (D ++ [x]) ++ y :: R := by simp
    have ry : rd (D ++ x :: y :: R) ((D ++ [x]).length : Int) = y := by rw [d1]; exact xh _ _ _ rfl
    have by_ : inb ((D ++ [x]).length : Int) (D ++ x :: y :: R).length = true := by rw [d1]; exact zY _ _ _ rfl
    rw [zq.l1, e1, qt, if_pos (by simp only [List.length_append, List.length_cons, List.length_nil]; omega), zY _ _ _ rfl, qs, by_, qs, xh _ _ _ rfl, ry, QS K _ _ hK (by omega), qN.bind_ok,
      z3 (by simp only [List.length_cons, List.length_nil]; omega), qs, qI, qw (x := x.often_ + y.often_) (by omega) (by omega), qI,
      show ql ((D.length : Int) + 2) = ((D ++ [x, y]).length : Int) from by rw [qw (by omega) (by omega)]; simp]
    have := vd K hK N hN R (D ++ [x, y]) (O ++ [⟨x.often_ + y.often_, x.symbols_ ++ y.symbols_⟩]) k (by simp only [List.length_append, List.length_cons, List.length_nil]; omega)
      (by simp only [List.length_append, List.length_cons, List.length_nil]; omega) (by omega) (fun p hp => hb p (by simp [hp]))
    rw [show D ++ x :: y :: R = D ++ [x, y] ++ R from by simp, this]
    simp [prs]
theorem u3 (K : Nat) (R : List PK) (hK : 3 ≤ K) (hl : R.length < 1073741824) (hl2 : R.length < 2 * K) (hb : ∀ p ∈ R, 0 ≤ p.often_ ∧ p.often_ < 4611686018427387904 ∧ p.symbols_.length < 1073741824) : zq.m K R = .ok (prs R) := by
  have := vd K hK R.length hl R [] [] K (by simp) (by simp) hl2 hb
  simpa [zq.m] using this
theorem uq (K : Nat) (a b : List PK) (hK : 3 ≤ K) (hK2 : (1099511627776 : Nat) > K) (hl : a.length + b.length + 1 < K) (hl2 : a.length + b.length < 137438953472) : ∃ R, SS (a ++ b) R ∧ zN.m K a b = .ok R := by
  obtain ⟨R, h1, h2⟩ := jI K (a ++ b) hK2 (by simp only [List.length_append]; omega) (by simp only [List.length_append]; omega)
  refine ⟨R, h1, ?_⟩
  unfold zN.m
  rw [QT K a b hK (by omega), qN.bind_ok, QF, h2]
  rfl
theorem uL : ∀ {l : List PK}, z9 l → z9 (prs l)
  | [], _ => List.Pairwise.nil
  | [_], _ => by simp [prs, z9]
  | x :: y :: r, h => by
    have h1 := List.pairwise_cons.1 h
    have h2 := List.pairwise_cons.1 h1.2
    refine List.pairwise_cons.2 ⟨fun p hp => ?_, uL (l := r) h2.2⟩
    have : ∀ {r : List PK}, ∀ p ∈ prs r, ∃ u ∈ r, ∃ v ∈ r, p.often_ = u.often_ + v.often_ := by
      intro r
      induction r using prs.induct with
      | case1 u v r ih =>
        intro p hp
        simp only [prs, List.mem_cons] at hp
        rcases hp with rfl | hp
        · exact ⟨u, by simp, v, by simp, rfl⟩
        · obtain ⟨a, ha, b, hb, h⟩ := ih p hp
          exact ⟨a, by simp [ha], b, by simp [hb], h⟩
      | case2 r hr =>
        intro p hp
        unfold prs at hp
        split at hp
        · rename_i a b c; exact (hr a b c rfl).elim
        · cases hp
    obtain ⟨u, hu, v, hv, he⟩ := this p hp
    have g1 := h1.1 u (by simp [hu])
    have g2 := h2.1 v hv
    show x.often_ + y.often_ ≤ p.often_
    omega
theorem jJ : ∀ {a b : List PK}, z9 a → z9 b → (∀ k : Int, a.filter (fun x => x.often_ == k) = b.filter (fun x => x.often_ == k)) → a = b
  | [], [], _, _, _ => rfl
  | [], y :: b, _, _, h => by have := h y.often_; simp at this
  | x :: a, [], _, _, h => by have := h x.often_; simp at this
  | x :: a, y :: b, ha, hb, h => by
    have hx := List.pairwise_cons.1 ha
    have hy := List.pairwise_cons.1 hb
    have hle : ∀ {x y : PK} {a b : List PK}, (∀ z ∈ a, x.often_ ≤ z.often_) → (x :: a).filter (fun z => z.often_ == y.often_) = (y :: b).filter (fun z => z.often_ == y.often_) → x.often_ ≤ y.often_ := by
      intro x y a b hx h
      have hm : y ∈ (x :: a).filter (fun z => z.often_ == y.often_) := by rw [h]; simp
      rw [List.mem_filter] at hm
      rcases List.mem_cons.1 hm.1 with h1 | h1
      · rw [h1]; exact Int.le_refl _
      · exact hx y h1
    have e : x.often_ = y.often_ := Int.le_antisymm (hle hx.1 (h y.often_)) (hle hy.1 (h x.often_).symm)
    have h0 := h x.often_
    simp only [List.filter_cons, beq_self_eq_true, if_true, ← e] at h0
    simp only [List.cons.injEq] at h0
    rw [h0.1, jJ hx.2 hy.2 fun k => ?_]
    have hk := h k
    simp only [List.filter_cons, e] at hk
    by_cases hkk : (y.often_ == k) = true
    · simp only [hkk, if_true, List.cons.injEq] at hk; exact hk.2
    · simp only [hkk] at hk; simpa using hk
theorem xN {α : Type} (p q : α → Bool) (l : List α) : (l.filter p).filter q = (l.filter q).filter p := by
  simp only [List.filter_filter]
  congr 1; funext x; rw [Bool.and_comm]
theorem SS.kind {a b R : List PK} (h : SS (a ++ b) R) (p : PK → Bool) (ha : z9 a) (h1 : ∀ x ∈ a, p x = true) (h2 : ∀ x ∈ b, p x = false) : R.filter p = a := by
  refine jJ (h.1.sublist (List.filter_sublist)) ha fun k => ?_
  have e : b.filter p = [] := List.filter_eq_nil_iff.2 (fun x hx => by simp [h2 x hx])
  rw [xN, h.2.2 k, xN, List.filter_append, List.filter_eq_self.2 h1, e, List.append_nil]
theorem SS.kind2 {a b R : List PK} (h : SS (a ++ b) R) (p : PK → Bool) (hb : z9 b) (h1 : ∀ x ∈ a, p x = false) (h2 : ∀ x ∈ b, p x = true) : R.filter p = b := by
  refine jJ (h.1.sublist (List.filter_sublist)) hb fun k => ?_
  have e : a.filter p = [] := List.filter_eq_nil_iff.2 (fun x hx => by simp [h1 x hx])
  rw [xN, h.2.2 k, xN, List.filter_append, List.filter_eq_self.2 h2, e, List.nil_append]
end Go.Pu

set_option maxRecDepth 100000
namespace Go.Pu
open Go Go.Sl Go.Mo
def zO (p : PK) : Bool := p.symbols_.length == 1
def qY (l : List PK) : List Int := l.flatMap (·.symbols_)
structure Rows (X : List PK) (R : Nat → List PK) : Prop where
  zero : R 0 = X
  succ : ∀ t, SS (X ++ prs (R t)) (R (t + 1))
  one : ∀ p ∈ X, p.symbols_.length = 1
  pos : ∀ p ∈ X, 0 < p.often_
  srt : z9 X
theorem yR : ∀ {r : List PK} {p : PK}, p ∈ prs r → ∃ u ∈ r, ∃ v ∈ r, p.often_ = u.often_ + v.often_ ∧ p.symbols_ = u.symbols_ ++ v.symbols_ := by
  intro r
  induction r using prs.induct with
  | case1 u v r ih =>
    intro p hp
    simp only [prs, List.mem_cons] at hp
    rcases hp with rfl | hp
    · exact ⟨u, by simp, v, by simp, rfl, rfl⟩
    · obtain ⟨a, ha, b, hb, h⟩ := ih hp
      exact ⟨a, by simp [ha], b, by simp [hb], h⟩
  | case2 r hr =>
    intro p hp
    unfold prs at hp
    split at hp
    · rename_i a b c; exact (hr a b c rfl).elim
    · cases hp
theorem uK : ∀ {T : List PK} (U : List PK), T.length % 2 = 0 → prs (T ++ U) = prs T ++ prs U
  | [], U, _ => by simp [prs]
  | [x], U, h => by simp at h
  | x :: y :: T, U, h => by
    simp only [List.cons_append, prs]
    rw [uK U (by simp only [List.length_cons] at h; omega)]
theorem yS (l : List PK) (b : Nat) : (prs l).take b = prs (l.take (2 * b)) := by
  induction l using prs.induct generalizing b with
  | case1 u v r ih =>
    cases b with
    | zero => simp [prs]
    | succ b => rw [show 2 * (b + 1) = 2 * b + 1 + 1 from by omega]; simp only [prs, List.take_succ_cons, ih]
  | case2 r hr =>
    have h1 : prs r = [] := by
      unfold prs
      split
      · rename_i a b c; exact (hr a b c rfl).elim
      · rfl
    have h2 : prs (r.take (2 * b)) = [] := by
      have := xQ (r.take (2 * b))
      have h3 := xQ r
      rw [h1] at h3
      simp only [List.length_nil] at h3
      have h4 : (r.take (2 * b)).length ≤ r.length := (List.take_sublist _ _).length_le
      exact List.length_eq_zero_iff.1 (by omega)
    rw [h1, h2]; simp
theorem ja : ∀ {l : List PK}, l.length % 2 = 0 → qY (prs l) = qY l
  | [], _ => rfl
  | [x], h => by simp at h
  | x :: y :: r, h => by
    have := ja (l := r) (by simp only [List.length_cons] at h; omega)
    simp only [qY] at this
    simp only [qY, prs, List.flatMap_cons, this, List.append_assoc]
section
variable {X : List PK} {R : Nat → List PK} (H : Rows X R)
include H
theorem Rows.sorted : ∀ t, z9 (R t)
  | 0 => by rw [H.zero]; exact H.srt
  | t + 1 => (H.succ t).1
theorem Rows.good : ∀ t, ∀ p ∈ R t, 0 < p.often_ ∧ 1 ≤ p.symbols_.length
  | 0, p, hp => by rw [H.zero] at hp; exact ⟨H.pos p hp, by rw [H.one p hp]; exact Nat.le_refl _⟩
  | t + 1, p, hp => by
    rcases List.mem_append.1 ((H.succ t).2.1.mem_iff.1 hp) with h | h
    · exact ⟨H.pos p h, by rw [H.one p h]; exact Nat.le_refl _⟩
    · obtain ⟨u, hu, v, hv, h1, h2⟩ := yR h
      have := Rows.good t u hu
      have := Rows.good t v hv
      exact ⟨by omega, by rw [h2, List.length_append]; omega⟩
theorem Rows.two (t : Nat) : ∀ p ∈ prs (R t), zO p = false := by
  intro p hp
  obtain ⟨u, hu, v, hv, _, h2⟩ := yR hp
  have := (H.good t u hu).2
  have := (H.good t v hv).2
  simp only [zO, h2, List.length_append, beq_eq_false_iff_ne]; omega
theorem Rows.ones : ∀ p ∈ X, zO p = true := fun p hp => by simp [zO, H.one p hp]
theorem Rows.singles (t : Nat) : (R (t + 1)).filter zO = X := (H.succ t).kind zO H.srt H.ones (H.two t)
theorem Rows.pairs (t : Nat) : (R (t + 1)).filter (fun p => !zO p) = prs (R t) :=
  (H.succ t).kind2 (fun p => !zO p) (uL (H.sorted t)) (fun p hp => by simp [H.ones p hp]) (fun p hp => by simp [H.two t p hp])
theorem Rows.len (t : Nat) : (R (t + 1)).length = X.length + (R t).length / 2 := by
  rw [(H.succ t).2.1.length_eq, List.length_append, xQ]
end
theorem yv {α : Type} (p : α → Bool) (l : List α) (m : Nat) : (l.take m).filter p = (l.filter p).take ((l.take m).filter p).length ∧ (l.drop m).filter p = (l.filter p).drop ((l.take m).filter p).length := by
  have h : l.filter p = (l.take m).filter p ++ (l.drop m).filter p := by rw [← List.filter_append, List.take_append_drop]
  constructor
  · conv => rhs; rw [h]
    simp
  · conv => rhs; rw [h]
    simp
def uk (R : Nat → List PK) (t m : Nat) : Nat := (((R t).take m).filter zO).length
def x7 (R : Nat → List PK) (t m : Nat) : Nat := (((R t).take m).filter fun p => !zO p).length
def vt (R : Nat → List PK) : Nat → Nat → List Nat
  | 0, m => [m]
  | t + 1, m => uk R (t + 1) m :: vt R t (2 * x7 R (t + 1) m)
theorem jl (R : Nat → List PK) : ∀ t m, (vt R t m).length = t + 1
  | 0, _ => rfl
  | t + 1, m => by simp [vt, jl R t]
theorem v8 {α : Type} (p : α → Bool) (l : List α) : (l.filter p).length + (l.filter fun x => !p x).length = l.length := by
  have := (List.filter_append_perm p l).length_eq
  simpa using this
theorem Z3 (R : Nat → List PK) (t m : Nat) (h : m ≤ (R t).length) : uk R t m + x7 R t m = m := by
  have := v8 zO ((R t).take m)
  rw [List.length_take, Nat.min_eq_left h] at this
  exact this
section
variable {X : List PK} {R : Nat → List PK} (H : Rows X R)
include H
theorem Rows.takeOne (t m : Nat) : ((R (t + 1)).take m).filter zO = X.take (uk R (t + 1) m) := by
  have := (yv zO (R (t + 1)) m).1
  rw [H.singles t] at this
  exact this
theorem Rows.takeTwo (t m : Nat) : ((R (t + 1)).take m).filter (fun p => !zO p) = (prs (R t)).take (x7 R (t + 1) m) := by
  have := (yv (fun p => !zO p) (R (t + 1)) m).1
  rw [H.pairs t] at this
  exact this
theorem Rows.twoLe (t m : Nat) : 2 * x7 R (t + 1) m ≤ (R t).length := by
  have h := congrArg List.length (H.pairs t)
  have h2 : x7 R (t + 1) m ≤ ((R (t + 1)).filter fun p => !zO p).length := by
    have := (List.take_sublist m (R (t + 1))).filter (fun p => !zO p)
    exact this.length_le
  rw [h, xQ] at h2
  omega
theorem Rows.oneLe (t m : Nat) : uk R (t + 1) m ≤ X.length := by
  have h := congrArg List.length (H.singles t)
  have := ((List.take_sublist m (R (t + 1))).filter zO).length_le
  rw [h] at this
  exact this
theorem Rows.count (s : Int) : ∀ t m, m ≤ (R t).length → (qY ((R t).take m)).count s = ((vt R t m).map fun a => (qY (X.take a)).count s).sum
  | 0, m, h => by simp [vt, H.zero]
  | t + 1, m, h => by
    have hp := (List.filter_append_perm zO ((R (t + 1)).take m)).flatMap_right (·.symbols_)
    have h1 := hp.count_eq s
    rw [List.flatMap_append, List.count_append, H.takeOne, H.takeTwo, yS] at h1
    have h2 := H.twoLe t m
    have h3 : ((R t).take (2 * x7 R (t + 1) m)).length = 2 * x7 R (t + 1) m := by rw [List.length_take, Nat.min_eq_left h2]
    have h4 := ja (l := (R t).take (2 * x7 R (t + 1) m)) (by rw [h3]; omega)
    have h5 := Rows.count s t (2 * x7 R (t + 1) m) h2
    simp only [qY] at h4 h5 ⊢
    rw [← h1, h4, h5]
    simp [vt]
theorem Rows.mono (t m : Nat) : ∀ a, (vt R t (2 * x7 R (t + 1) m)).head? = some a → a ≤ uk R (t + 1) m := by
  intro a ha
  obtain ⟨b, hb⟩ : ∃ b, x7 R (t + 1) m = b := ⟨_, rfl⟩
  have hbl := H.twoLe t m
  have hTwo := H.takeTwo t m
  have hOne := H.takeOne t m
  rw [hb] at ha hbl hTwo
  -- the single ones among the first 2b
  have hal : ((R t).take (2 * b)).filter zO = X.take a ∧ a ≤ X.length := by
    cases t with
    | zero =>
      simp only [vt, List.head?_cons, Option.some.injEq] at ha
      subst ha
      rw [H.zero] at hbl ⊢
      exact ⟨List.filter_eq_self.2 fun p hp => H.ones p (List.mem_of_mem_take hp), hbl⟩
    | succ t =>
      simp only [vt, List.head?_cons, Option.some.injEq] at ha
      subst ha
      exact ⟨H.takeOne t (2 * b), H.oneLe t (2 * b)⟩
  refine Nat.le_of_not_lt fun hlt => ?_
  obtain ⟨c, hc⟩ : ∃ c, uk R (t + 1) m = c := ⟨_, rfl⟩
  rw [hc] at hlt hOne
  have hcx : c < X.length := by omega
  -- the first 2b: the last two
  have hb0 : 0 < b := by
    refine Nat.pos_of_ne_zero fun h0 => ?_
    subst h0
    have := congrArg List.length hal.1
    simp at this; omega
  obtain ⟨T, u, v, hT, hTl⟩ : ∃ T u v, (R t).take (2 * b) = T ++ [u, v] ∧ T.length = 2 * (b - 1) := by
    have hl : ((R t).take (2 * b)).length = 2 * b := by rw [List.length_take, Nat.min_eq_left hbl]
    rcases xW ((R t).take (2 * b)) with h | ⟨T1, v, h⟩
    · rw [h] at hl; simp at hl; omega
    · rcases xW T1 with h' | ⟨T, u, h'⟩
      · rw [h, h'] at hl; simp at hl; omega
      · refine ⟨T, u, v, by rw [h, h']; simp, ?_⟩
        rw [h, h'] at hl; simp only [List.length_append, List.length_cons, List.length_nil] at hl; omega
  have hq : (⟨u.often_ + v.often_, u.symbols_ ++ v.symbols_⟩ : PK) ∈ (R (t + 1)).take m := by
    have : (⟨u.often_ + v.often_, u.symbols_ ++ v.symbols_⟩ : PK) ∈ ((R (t + 1)).take m).filter (fun p => !zO p) := by
      rw [hTwo, yS, hT, uK _ (by omega)]
      simp [prs]
    exact (List.mem_filter.1 this).1
  have hx : X[c] ∈ (R (t + 1)).drop m := by
    have h1 := (yv zO (R (t + 1)) m).2
    rw [H.singles t, show (((R (t + 1)).take m).filter zO).length = c from hc] at h1
    have : X[c] ∈ ((R (t + 1)).drop m).filter zO := by
      rw [h1, List.drop_eq_getElem_cons hcx]; exact List.mem_cons_self ..
    exact (List.mem_filter.1 this).1
  have hs := H.sorted (t + 1)
  rw [← List.take_append_drop m (R (t + 1))] at hs
  have g1 := hs.cross _ hq _ hx
  have hx2 : X[c] ∈ T ++ [u, v] := by
    rw [← hT]
    have : X[c] ∈ ((R t).take (2 * b)).filter zO := by
      rw [hal.1, List.mem_take_iff_getElem]
      exact ⟨c, by omega, rfl⟩
    exact (List.mem_filter.1 this).1
  have hs2 := (H.sorted t).sublist (List.take_sublist (2 * b) (R t))
  rw [hT] at hs2
  have hu : 0 < u.often_ := (H.good t u (List.mem_of_mem_take (by rw [hT]; simp : u ∈ (R t).take (2 * b)))).1
  have g2 : X[c].often_ ≤ v.often_ := by
    rcases List.mem_append.1 hx2 with h | h
    · exact z9.cross (show z9 (T ++ [u, v]) from hs2) _ h v (by simp)
    · simp at h
      rcases h with h | h
      · rw [h]; exact z9.cross (A := [u]) (B := [v]) (z9.right (A := T) hs2) u (by simp) v (by simp)
      · rw [h]; exact Int.le_refl _
  simp only at g1
  omega
theorem Rows.levle : ∀ t m, m ≤ (R t).length → ∀ a ∈ vt R t m, a ≤ X.length
  | 0, m, h, a, ha => by simp [vt] at ha; subst ha; rw [H.zero] at h; exact h
  | t + 1, m, h, a, ha => by
    rcases List.mem_cons.1 ha with rfl | ha
    · exact H.oneLe t m
    · exact Rows.levle t _ (H.twoLe t m) a ha
theorem Rows.down : ∀ t m, (vt R t m).Pairwise (fun a b => b ≤ a)
  | 0, m => by simp [vt]
  | t + 1, m => by
    have ih := Rows.down t (2 * x7 R (t + 1) m)
    refine List.pairwise_cons.2 ⟨fun b hb => ?_, ih⟩
    have hm := H.mono t m
    cases hl : vt R t (2 * x7 R (t + 1) m) with
    | nil => rw [hl] at hb; cases hb
    | cons c r =>
      rw [hl] at hb ih hm
      have hc := hm c rfl
      rcases List.mem_cons.1 hb with rfl | hb
      · exact hc
      · exact Nat.le_trans ((List.pairwise_cons.1 ih).1 b hb) hc
end
def uw : List Nat → Nat
  | [] => 0
  | a :: r => a * 2 ^ r.length + uw r
theorem vL {X : List PK} {R : Nat → List PK} (H : Rows X R) : ∀ t m, m ≤ (R t).length → uw (vt R t m) = m * 2 ^ t
  | 0, m, _ => by simp [vt, uw]
  | t + 1, m, h => by
    simp only [vt, uw, jl, vL H t _ (H.twoLe t m)]
    have := Z3 R (t + 1) m h
    conv => rhs; rw [← this]
    rw [Nat.pow_succ, Nat.add_mul]
    have : 2 * x7 R (t + 1) m * 2 ^ t = x7 R (t + 1) m * (2 ^ t * 2) := by rw [Nat.mul_comm (2 ^ t) 2, ← Nat.mul_assoc, Nat.mul_comm 2]
    omega
def ye (as : List Nat) (i : Nat) : Nat := (as.filter fun a => decide (i < a)).length
theorem Zo (as : List Nat) (i : Nat) : ye as i ≤ as.length := List.length_filter_le ..
theorem Qo (n : Nat) : ∀ as : List Nat, as.Pairwise (fun a b => b ≤ a) → (∀ a ∈ as, a ≤ n) → ((List.range n).map fun i => 2 ^ (as.length - ye as i)).sum + uw as = n * 2 ^ as.length
  | [], _, _ => by
    have : ∀ m : Nat, ((List.range m).map fun _ => 1).sum = m := by
      intro m
      induction m with
      | zero => rfl
      | succ m ih => rw [List.range_succ, List.map_append, List.sum_append, ih]; simp
    have h2 := this n
    simp only [ye, uw, List.filter_nil, List.length_nil, Nat.sub_self, Nat.pow_zero, Nat.add_zero, Nat.mul_one]
    exact h2
  | a :: r, hp, hn => by
    have hp' := List.pairwise_cons.1 hp
    have ih := Qo n r hp'.2 (fun b hb => hn b (by simp [hb]))
    have ha := hn a (by simp)
    have step : ((List.range n).map fun i => 2 ^ ((a :: r).length - ye (a :: r) i)).sum = ((List.range n).map fun i => 2 ^ (r.length - ye r i)).sum + (n - a) * 2 ^ r.length := by
      have hterm : ∀ i, 2 ^ ((a :: r).length - ye (a :: r) i) = 2 ^ (r.length - ye r i) + (if i < a then 0 else 2 ^ r.length) := by
        intro i
        by_cases h : i < a
        · rw [if_pos h, Nat.add_zero]
          congr 1
          have : ye (a :: r) i = ye r i + 1 := by simp [ye, h]
          rw [this, List.length_cons]; omega
        · rw [if_neg h]
          have h0 : ye r i = 0 := by
            unfold ye
            rw [List.length_eq_zero_iff, List.filter_eq_nil_iff]
            intro b hb
            have := hp'.1 b hb
            simp; omega
          have h1 : ye (a :: r) i = 0 := by simp [ye, h]; intro b hb; have := hp'.1 b hb; omega
          rw [h0, h1, List.length_cons, Nat.sub_zero, Nat.sub_zero, Nat.pow_succ]; omega
      have hsum : ∀ m, m ≤ n → ((List.range m).map fun i => 2 ^ ((a :: r).length - ye (a :: r) i)).sum = ((List.range m).map fun i => 2 ^ (r.length - ye r i)).sum + (m - a) * 2 ^ r.length := by
        intro m
        induction m with
        | zero => intro _; simp
        | succ m ih =>
          intro hm
          rw [List.range_succ, List.map_append, List.map_append, List.sum_append, List.sum_append, ih (by omega)]
          simp only [List.map_cons, List.map_nil, List.sum_cons, List.sum_nil, Nat.add_zero, hterm m]
          by_cases h : m < a
          · rw [if_pos h, show m + 1 - a = 0 from by omega, show m - a = 0 from by omega]; omega
          · rw [if_neg h, show m + 1 - a = (m - a) + 1 from by omega, Nat.add_mul]; omega
      exact hsum n (Nat.le_refl _)
    rw [step]
    simp only [uw, List.length_cons]
    have : (n - a) * 2 ^ r.length + a * 2 ^ r.length = n * 2 ^ r.length := by rw [← Nat.add_mul]; congr 1; omega
    have e2 : n * 2 ^ (r.length + 1) = n * 2 ^ r.length + n * 2 ^ r.length := by rw [Nat.pow_succ, ← Nat.mul_assoc, Nat.mul_two]
    rw [e2]
    have e3 : n * 2 ^ r.length = n * 2 ^ r.length := rfl
    omega
end Go.Pu

set_option maxRecDepth 100000
namespace Go.Pu
open Go Go.Sl Go.Mo
def xy : List Int → Nat → List PK
  | [], _ => []
  | n :: r, i => if 0 < n then ⟨n, [(i : Int)]⟩ :: xy r (i + 1) else xy r (i + 1)
def jr (n : Int) : Bool := decide (n < 0) || decide (n > 1099511627776)
def Q6 (often : List Int) (most : Int) : Prop := 1 ≤ most ∧ most ≤ 15 ∧ often.length ≤ 320 ∧ (∀ n ∈ often, 0 ≤ n ∧ n ≤ 1099511627776) ∧ (xy often 0).length ≤ 2 ^ most.toNat
instance (often : List Int) (most : Int) : Decidable (Q6 often most) := by unfold Q6; exact inferInstance
def xm (N : Nat) (D : List Int) : List Int := (List.range N).map fun (j : Nat) => ((D.count (j : Int) : Nat) : Int)
theorem z2 (N : Nat) (D : List Int) : (xm N D).length = N := by simp [xm]
theorem yM (N : Nat) : xm N [] = List.replicate N 0 := by
  unfold xm
  apply List.ext_getElem <;> simp
theorem yT {N : Nat} {D : List Int} {j : Nat} (h : j < N) : rd (xm N D) (j : Int) = ((D.count (j : Int) : Nat) : Int) := by
  simp [rd, xm, List.getD, h]
theorem jQ {N : Nat} {D : List Int} {j : Nat} (h : j < N) : (xm N D).set j (((D.count (j : Int) + 1 : Nat)) : Int) = xm N (D ++ [(j : Int)]) := by
  unfold xm
  apply List.ext_getElem
  · simp
  · intro i h1 h2
    simp only [List.length_set, List.length_map, List.length_range] at h1
    rw [List.getElem_set]
    by_cases hij : j = i
    · subst hij; simp
    · rw [if_neg hij]
      have : ¬ ((j : Int) = (i : Int)) := by omega
      simp [List.count_append, List.count_cons, this]
theorem ZY (K : Nat) (g : List Int → Int → qN (List Int × Int)) (zs : List PK) (v N : Nat) (hv : v < 1099511627776) (D : List Int) : ∀ (k : Nat) (S T : List Int), (rd zs (v : Int)).symbols_ = S ++ T → T.length < k → (S ++ T).length < 1099511627776 → (D ++ S ++ T).length < 1099511627776 → (∀ s ∈ T, ∃ j : Nat, j < N ∧ s = (j : Int)) →
    qk.l8 K g zs (v : Int) k (xm N (D ++ S)) (S.length : Int) = g (xm N (D ++ S ++ T)) ((v + 1 : Nat) : Int) := by
  intro k
  induction k with
  | zero => intro S T _ h; omega
  | succ k ih =>
    intro S T h1 h2 h3 h5 h4
    rw [qk.l8, h1, qt]
    cases T with
    | nil => rw [if_neg (by simp), qw (by omega) (by omega)]; simp
    | cons s T =>
      obtain ⟨j, hj, rfl⟩ := h4 s (by simp)
      have hc : (D ++ S).count (j : Int) ≤ (D ++ S).length := List.count_le_length
      simp only [List.length_append, List.length_cons] at h2 h3 h5 hc
      rw [if_pos (by simp only [List.length_append, List.length_cons]; omega), zY _ _ _ rfl, qs, xh _ _ _ rfl, qI, z2, jz hj, qs, yT hj, qw (by omega) (by omega), Int.toNat_natCast, qI,
        show ((((D ++ S).count (j : Int) : Nat) : Int) + 1) = (((D ++ S).count (j : Int) + 1 : Nat) : Int) from rfl, jQ hj, show ql ((S.length : Int) + 1) = ((S ++ [(j : Int)]).length : Int) from by rw [qw (by omega) (by omega)]; simp]
      have := ih (S ++ [(j : Int)]) T (by rw [h1]; simp) (by omega) (by simp only [List.length_append, List.length_cons, List.length_nil]; omega) (by simp only [List.length_append, List.length_cons, List.length_nil]; omega) (fun s hs => h4 s (by simp [hs]))
      simp only [← List.append_assoc] at this
      rw [this]
      simp
theorem ZX (K : Nat) (N M : Nat) (hM : M < 1099511627776) (hMK : M < K) : ∀ (k : Nat) (A B : List PK), B.length < k → (A ++ B).length < 1099511627776 → (qY (A ++ B)).length ≤ M → (∀ s ∈ qY B, ∃ j : Nat, j < N ∧ s = (j : Int)) →
    qk.l7 K (A ++ B) k (xm N (qY A)) (A.length : Int) = .ok (xm N (qY (A ++ B)), 0) := by
  intro k
  induction k with
  | zero => intro A B h; omega
  | succ k ih =>
    intro A B h1 h2 h3 h4
    rw [qk.l7, qt]
    cases B with
    | nil => rw [if_neg (by simp)]; simp
    | cons p B =>
      have h3' := h3
      simp only [List.length_append, List.length_cons] at h1 h2
      simp only [qY, List.flatMap_append, List.flatMap_cons, List.length_append] at h3
      have hp := ZY K (qk.l7 K (A ++ p :: B) k) (A ++ p :: B) A.length N (by omega) (qY A) K [] p.symbols_ (by rw [xh _ _ _ rfl]; rfl) (by omega) (by simp only [List.nil_append]; omega) (by simp only [List.append_nil, List.length_append, qY]; omega)
        (fun s hs => h4 s (by simp only [qY, List.flatMap_cons, List.mem_append]; exact .inl hs))
      simp only [List.append_nil, List.length_nil] at hp
      rw [if_pos (by simp only [List.length_append, List.length_cons]; omega), zY _ _ _ rfl, qs]
      rw [show ((0 : Nat) : Int) = 0 from rfl] at hp
      rw [hp]
      have := ih (A ++ [p]) B (by omega) (by simp only [List.length_append, List.length_cons, List.length_nil]; omega) (by rw [List.append_assoc]; exact h3') (fun s hs => h4 s (by simp only [qY, List.flatMap_cons, List.mem_append] at hs ⊢; exact .inr hs))
      rw [show qY A ++ p.symbols_ = qY (A ++ [p]) from by simp [qY], show ((A.length + 1 : Nat) : Int) = ((A ++ [p]).length : Int) from by simp, show A ++ p :: B = A ++ [p] ++ B from by simp, this]
theorem uP : ∀ (l : List Int) (i : Nat), (xy l i).length ≤ l.length
  | [], _ => Nat.le_refl _
  | n :: r, i => by
    unfold xy
    have := uP r (i + 1)
    split <;> simp <;> omega
theorem Zd (K : Nat) (often : List Int) (most : Int) (hl : often.length ≤ 320) : ∀ (k : Nat) (D T : List Int) (O : List PK), D ++ T = often → T.length < k → O.length ≤ D.length →
    qk.l2 K often most k O (D.length : Int) = qk.j3 K often most (O ++ xy T D.length) := by
  intro k
  induction k with
  | zero => intro D T O _ h; omega
  | succ k ih =>
    intro D T O h1 h2 h3
    have hlen : D.length + T.length = often.length := by rw [← h1]; simp
    rw [qk.l2, qt]
    cases T with
    | nil => rw [if_neg (by simp only [List.length_nil] at hlen; omega)]; simp [xy]
    | cons n T =>
      simp only [List.length_cons] at h2 hlen
      have hn : ql ((D.length : Int) + 1) = ((D ++ [n]).length : Int) := by rw [qw (by omega) (by omega)]; simp
      rw [if_pos (by omega), jz (by omega), qs, show rd often (D.length : Int) = n from by rw [← h1]; exact xh _ _ _ rfl, qI, qt, hn]
      by_cases h0 : n > 0
      · rw [if_pos h0, z3 (by simp only [List.length_cons, List.length_nil]; omega), qs, qI]
        have := ih (D ++ [n]) T (O ++ [⟨n, [(D.length : Int)]⟩]) (by rw [← h1]; simp) (by omega) (by simp; exact h3)
        rw [this]
        simp only [xy, List.length_append, List.length_cons, List.length_nil]
        rw [if_pos (by omega)]
        simp
      · rw [if_neg h0, ih (D ++ [n]) T O (by rw [← h1]; simp) (by omega) (by simp; omega)]
        simp only [xy, List.length_append, List.length_cons, List.length_nil]
        rw [if_neg (by omega)]
theorem jb (K : Nat) (often : List Int) (hl : often.length ≤ 320) : ∀ (k : Nat) (D T : List Int), D ++ T = often → T.length < k →
    (qB.l1 K often k (D.length : Int)).bind (fun x => lt (decide (x ≥ (0 : Int))) fun v => .ok v) = .ok (T.any jr) := by
  intro k
  induction k with
  | zero => intro D T _ h; omega
  | succ k ih =>
    intro D T h1 h2
    have hlen : D.length + T.length = often.length := by rw [← h1]; simp
    rw [qB.l1, qt]
    cases T with
    | nil => rw [if_neg (by simp only [List.length_nil] at hlen; omega)]; rfl
    | cons n T =>
      simp only [List.length_cons] at h2 hlen
      rw [if_pos (by omega), jz (by omega), qs, show rd often (D.length : Int) = n from by rw [← h1]; exact xh _ _ _ rfl]
      unfold xb.m
      rw [qI, qN.bind_ok, List.any_cons]
      cases hb : jr n with
      | true =>
        rw [show (decide (n < 0) || decide (n > 1099511627776)) = true from hb, cond_true, qN.bind_ok, qI]
        simp
      | false =>
        rw [show (decide (n < 0) || decide (n > 1099511627776)) = false from hb, cond_false, show ql ((D.length : Int) + 1) = ((D ++ [n]).length : Int) from by rw [qw (by omega) (by omega)]; simp,
          ih (D ++ [n]) T (by rw [← h1]; simp) (by omega)]
        simp
theorem yI (often : List Int) : often.any jr = false ↔ ∀ n ∈ often, 0 ≤ n ∧ n ≤ 1099511627776 := by
  rw [List.any_eq_false]
  constructor
  · intro h n hn
    have := h n hn
    simp only [jr, Bool.or_eq_true, decide_eq_true_eq] at this
    omega
  · intro h n hn
    have := h n hn
    simp only [jr, Bool.or_eq_true, decide_eq_true_eq]
    omega
theorem Zx {m : Int} (h1 : 1 ≤ m) (h2 : m ≤ 15) : xn .i64 1 m = ((2 ^ m.toNat : Nat) : Int) := by
  obtain ⟨n, rfl⟩ : ∃ n : Nat, m = (n : Int) := ⟨m.toNat, by omega⟩
  have hp : 2 ^ n ≤ 2 ^ 15 := Nat.pow_le_pow_right (by decide) (by omega)
  have := vJ (a := 1) (n := n) (by omega) (by omega)
  rw [Int.toNat_natCast]
  rw [show ((1 : Nat) : Int) = 1 from rfl] at this
  rw [this, Nat.one_mul]
theorem Q3 (K : Nat) (often : List Int) (most : Int) (hK : 320 < K) (h : ¬ Q6 often most) : qk.m K often most = .ok ([], 1) := by
  unfold qk.m
  by_cases h1 : (((decide (most < (1 : Int))) || (decide (most > (15 : Int)))) || (decide ((often.length : Int) > (320 : Int)))) = true
  · rw [h1, cond_true]; rfl
  · have h1' := h1
    simp only [Bool.or_eq_true, decide_eq_true_eq, not_or] at h1
    rw [Bool.not_eq_true] at h1'
    rw [h1', cond_false]
    have hc : qV.m K often = .ok (often.any jr) := jb K often (by omega) K [] often rfl (by omega)
    rw [hc, qN.bind_ok]
    cases hb : often.any jr with
    | true => rfl
    | false =>
      unfold qk.j1
      have := Zd K often most (by omega) K [] often [] rfl (by omega) (Nat.le_refl _)
      rw [show (([] : List Int).length : Int) = 0 from rfl] at this
      rw [cond_false, this]
      unfold qk.j3
      rw [yh (by omega), qs, Zx (by omega) (by omega), qt, if_pos]
      rw [yI] at hb
      have : ¬ (xy often 0).length ≤ 2 ^ most.toNat := fun hh => h ⟨by omega, by omega, by omega, hb, hh⟩
      simp only [List.nil_append, List.length_nil]
      omega
end Go.Pu

set_option maxRecDepth 100000
namespace Go.Pu
open Go Go.Sl Go.Mo
def zv (K : Nat) (X : List PK) : Nat → List PK
  | 0 => X
  | t + 1 => match zN.m K X (prs (zv K X t)) with
    | .ok r => r
    | _ => []
theorem jG (K : Nat) (X : List PK) (hX : X.length ≤ 320) (hK : 1000 ≤ K) (hK2 : (1099511627776 : Nat) > K) : ∀ t, (zv K X t).length ≤ 2 * X.length ∧ SS (X ++ prs (zv K X t)) (zv K X (t + 1)) ∧ zN.m K X (prs (zv K X t)) = .ok (zv K X (t + 1)) := by
  have step : ∀ t, (zv K X t).length ≤ 2 * X.length → SS (X ++ prs (zv K X t)) (zv K X (t + 1)) ∧ zN.m K X (prs (zv K X t)) = .ok (zv K X (t + 1)) := by
    intro t ht
    have hp := xQ (zv K X t)
    obtain ⟨R, h1, h2⟩ := uq K X (prs (zv K X t)) (by omega) hK2 (by omega) (by omega)
    have : zv K X (t + 1) = R := by rw [zv, h2]
    rw [this]
    exact ⟨h1, h2⟩
  have len : ∀ t, (zv K X t).length ≤ 2 * X.length := by
    intro t
    induction t with
    | zero => simp only [zv]; omega
    | succ t ih =>
      have := (step t ih).1.2.1.length_eq
      rw [this, List.length_append, xQ]; omega
  exact fun t => ⟨len t, step t (len t)⟩
theorem uN (K : Nat) (X : List PK) (hX : X.length ≤ 320) (hK : 1000 ≤ K) (hK2 : (1099511627776 : Nat) > K) (h1 : ∀ p ∈ X, p.symbols_.length = 1) (h2 : ∀ p ∈ X, 0 < p.often_) (h3 : z9 X) : Rows X (zv K X) :=
  ⟨rfl, fun t => (jG K X hX hK hK2 t).2.1, h1, h2, h3⟩
section
variable {X : List PK} {R : Nat → List PK} (H : Rows X R)
include H
theorem Rows.big (hb : ∀ p ∈ X, p.often_ ≤ 1099511627776) : ∀ t, ∀ p ∈ R t, p.often_ ≤ 1099511627776 * 2 ^ t ∧ p.symbols_.length ≤ 2 ^ t
  | 0, p, hp => by rw [H.zero] at hp; exact ⟨by have := hb p hp; simpa using this, by rw [H.one p hp]; exact Nat.le_refl _⟩
  | t + 1, p, hp => by
    have e1 : (2 : Int) ^ (t + 1) = 2 ^ t + 2 ^ t := by rw [Int.pow_succ]; omega
    have e2 : 2 ^ (t + 1) = 2 ^ t + 2 ^ t := by rw [Nat.pow_succ]; omega
    have p1 : (1 : Int) ≤ 2 ^ t := by have : 1 ≤ 2 ^ t := Nat.one_le_two_pow; exact_mod_cast this
    have p2 : 1 ≤ 2 ^ t := Nat.one_le_two_pow
    rcases List.mem_append.1 ((H.succ t).2.1.mem_iff.1 hp) with h | h
    · have := hb p h
      refine ⟨?_, by rw [H.one p h]; omega⟩
      rw [e1]; omega
    · obtain ⟨u, hu, v, hv, h1, h2⟩ := yR h
      have g1 := Rows.big hb t u hu
      have g2 := Rows.big hb t v hv
      exact ⟨by rw [h1, e1]; omega, by rw [h2, List.length_append]; omega⟩
theorem Rows.lack : ∀ t, (R t).length ≤ 2 * X.length ∧ (2 * X.length - (R t).length) * 2 ^ t + 1 ≤ X.length + 2 ^ t
  | 0 => by rw [H.zero]; simp only [Nat.pow_zero]; omega
  | t + 1 => by
    obtain ⟨h1, h2⟩ := Rows.lack t
    have hl := H.len t
    refine ⟨by omega, ?_⟩
    obtain ⟨r, hr⟩ : ∃ r, 2 * X.length - (R t).length = r := ⟨_, rfl⟩
    have hr2 : 2 * X.length - (R (t + 1)).length = (r + 1) / 2 := by omega
    rw [hr] at h2
    rw [hr2, Nat.pow_succ]
    have : (r + 1) / 2 * (2 ^ t * 2) ≤ (r + 1) * 2 ^ t := by
      rw [Nat.mul_comm (2 ^ t) 2, ← Nat.mul_assoc]
      exact Nat.mul_le_mul_right _ (by omega)
    rw [Nat.add_mul, Nat.one_mul] at this
    omega
theorem Rows.size : ∀ t m, m ≤ (R t).length → (qY ((R t).take m)).length ≤ (t + 1) * X.length
  | 0, m, h => by
    rw [H.zero]
    have : ∀ l : List PK, (∀ p ∈ l, p.symbols_.length = 1) → (qY l).length = l.length := by
      intro l
      induction l with
      | nil => intro _; rfl
      | cons p l ih => intro hh; simp only [qY, List.flatMap_cons, List.length_append, List.length_cons] at ih ⊢; rw [ih (fun q hq => hh q (by simp [hq])), hh p (by simp)]; omega
    rw [this _ (fun p hp => H.one p (List.mem_of_mem_take hp))]
    have := (List.take_sublist m X).length_le
    omega
  | t + 1, m, h => by
    have hp := (List.filter_append_perm zO ((R (t + 1)).take m)).flatMap_right (·.symbols_)
    have h1 := hp.length_eq
    rw [List.flatMap_append, List.length_append, H.takeOne, H.takeTwo, yS] at h1
    have h2 := H.twoLe t m
    have h3 : ((R t).take (2 * x7 R (t + 1) m)).length = 2 * x7 R (t + 1) m := by rw [List.length_take, Nat.min_eq_left h2]
    have h4 := ja (l := (R t).take (2 * x7 R (t + 1) m)) (by rw [h3]; omega)
    have h5 := Rows.size t (2 * x7 R (t + 1) m) h2
    have h6 : (qY (X.take (uk R (t + 1) m))).length ≤ X.length := by
      have : ∀ l : List PK, (∀ p ∈ l, p.symbols_.length = 1) → (qY l).length = l.length := by
        intro l
        induction l with
        | nil => intro _; rfl
        | cons p l ih => intro hh; simp only [qY, List.flatMap_cons, List.length_append, List.length_cons] at ih ⊢; rw [ih (fun q hq => hh q (by simp [hq])), hh p (by simp)]; omega
      rw [this _ (fun p hp => H.one p (List.mem_of_mem_take hp))]
      exact (List.take_sublist _ X).length_le
    simp only [qY] at h4 h5 h6 ⊢
    rw [h4] at h1
    rw [Nat.add_mul (t + 1) 1, Nat.one_mul]
    omega
end
theorem ZW (K : Nat) (most : Int) (L : Nat) (hL : most = (L : Int)) (hL1 : 1 ≤ L) (hL2 : L ≤ 15) (out : List Int) (X : List PK) (hX : X.length ≤ 320) (hK : 1000 ≤ K) (hK2 : (1099511627776 : Nat) > K) (h1 : ∀ p ∈ X, p.symbols_.length = 1) (h2 : ∀ p ∈ X, 0 < p.often_) (h3 : z9 X) (hb : ∀ p ∈ X, p.often_ ≤ 1099511627776) :
    ∀ (j k t : Nat), t + j = L - 1 → j < k → qk.l5 K most out X k (zv K X t) (t : Int) = qk.j6 K out X (zv K X (L - 1)) := by
  intro j
  induction j with
  | zero =>
    intro k t hj hk
    obtain ⟨k, rfl⟩ : ∃ m, k = m + 1 := ⟨k - 1, by omega⟩
    have : t = L - 1 := by omega
    subst this
    rw [qk.l5, qt, hL, qw (by omega) (by omega), if_neg (by omega)]
  | succ j ih =>
    intro k t hj hk
    obtain ⟨k, rfl⟩ : ∃ m, k = m + 1 := ⟨k - 1, by omega⟩
    have H := uN K X hX hK hK2 h1 h2 h3
    have hr := jG K X hX hK hK2 t
    have hp : zq.m K (zv K X t) = .ok (prs (zv K X t)) := by
      refine u3 K _ (by omega) (by omega) (by omega) fun p hp => ?_
      have g1 := H.good t p hp
      have g2 := H.big hb t p hp
      have p1 : (2 : Int) ^ t ≤ 2 ^ 14 := by have : 2 ^ t ≤ 2 ^ 14 := Nat.pow_le_pow_right (by decide) (by omega); exact_mod_cast this
      have p2 : 2 ^ t ≤ 2 ^ 14 := Nat.pow_le_pow_right (by decide) (by omega)
      refine ⟨by omega, by omega, by omega⟩
    rw [qk.l5, qt, hL, qw (by omega) (by omega), if_pos (by omega), hp, qN.bind_ok, hr.2.2, qN.bind_ok, qw (by omega) (by omega), ← hL]
    exact ih k (t + 1) (by omega) (by omega)
theorem ya : ∀ (l : List Int) (i : Nat), ∀ p ∈ xy l i, ∃ j, j < l.length ∧ 0 < rd l (j : Int) ∧ p = ⟨rd l (j : Int), [((i + j : Nat) : Int)]⟩
  | [], _, p, hp => by simp [xy] at hp
  | n :: r, i, p, hp => by
    have tail : p ∈ xy r (i + 1) → ∃ j, j < (n :: r).length ∧ 0 < rd (n :: r) (j : Int) ∧ p = ⟨rd (n :: r) (j : Int), [((i + j : Nat) : Int)]⟩ := by
      intro h
      obtain ⟨j, h1, h2, h3⟩ := ya r (i + 1) p h
      refine ⟨j + 1, by simp; exact h1, ?_, ?_⟩
      · have : rd (n :: r) ((j + 1 : Nat) : Int) = rd r (j : Int) := by simp [rd]
        rw [this]; exact h2
      · have : rd (n :: r) ((j + 1 : Nat) : Int) = rd r (j : Int) := by simp [rd]
        rw [this, h3]; simp; omega
    unfold xy at hp
    split at hp
    · rename_i h0
      rcases List.mem_cons.1 hp with rfl | hp
      · exact ⟨0, by simp, by simpa [rd] using h0, by simp [rd]⟩
      · exact tail hp
    · exact tail hp
theorem jo : ∀ (l : List Int) (i j : Nat), j < l.length → 0 < rd l (j : Int) → (⟨rd l (j : Int), [((i + j : Nat) : Int)]⟩ : PK) ∈ xy l i
  | [], _, j, h, _ => by simp at h
  | n :: r, i, 0, h, h0 => by
    have : 0 < n := by simpa [rd] using h0
    simp [xy, this, rd]
  | n :: r, i, j + 1, h, h0 => by
    have e : rd (n :: r) ((j + 1 : Nat) : Int) = rd r (j : Int) := by simp [rd]
    rw [e] at h0 ⊢
    have := jo r (i + 1) j (by simpa using h) h0
    rw [show ((i + 1 + j : Nat) : Int) = ((i + (j + 1) : Nat) : Int) from by omega] at this
    unfold xy
    split
    · exact List.mem_cons_of_mem _ this
    · exact this
theorem vf : ∀ (l : List Int) (i : Nat), (qY (xy l i)).Nodup
  | [], _ => by simp [xy, qY]
  | n :: r, i => by
    have ih := vf r (i + 1)
    unfold xy
    split
    · simp only [qY, List.flatMap_cons, List.singleton_append] at ih ⊢
      refine List.nodup_cons.2 ⟨fun h => ?_, ih⟩
      obtain ⟨p, hp, hs⟩ := List.mem_flatMap.1 h
      obtain ⟨j, _, _, rfl⟩ := ya r (i + 1) p hp
      simp at hs; omega
    · exact ih
end Go.Pu

set_option maxRecDepth 100000
namespace Go.Pu
open Go Go.Sl Go.Mo
structure jq (often : List Int) (most : Int) (l : List Int) : Prop where
  len : l.length = often.length
  rng : ∀ j : Nat, j < often.length → 0 ≤ rd l (j : Int) ∧ rd l (j : Int) ≤ most
  zero : ∀ j : Nat, j < often.length → (rd l (j : Int) = 0 ↔ rd often (j : Int) = 0)
  chk : yE l = 0
  mono : ∀ i k : Nat, i < often.length → k < often.length → 0 < rd often (i : Int) → rd often (i : Int) < rd often (k : Int) → rd l (k : Int) ≤ rd l (i : Int)
def wt (x : Int) : Nat := if 0 < x ∧ x < 16 then 2 ^ (15 - x.toNat) else 0
theorem ue : ∀ l : List Int, ks l 16 = (l.map wt).sum
  | [] => by simp [ks, c0]
  | x :: l => by rw [vr, ue l, List.map_cons, List.sum_cons, wt, show ((16 : Nat) : Int) = 16 from rfl]; omega
theorem yb : ∀ (X : List PK) (a : Nat), (∀ p ∈ X, p.symbols_.length = 1) → qY (X.take a) = (qY X).take a
  | [], a, _ => by simp [qY]
  | p :: X, 0, _ => by simp [qY]
  | p :: X, a + 1, h => by
    obtain ⟨s, hs⟩ := List.length_eq_one_iff.1 (h p (by simp))
    have := yb X a (fun q hq => h q (by simp [hq]))
    simp only [qY] at this ⊢
    simp only [List.take_succ_cons, List.flatMap_cons, hs, List.singleton_append, this]
theorem zT : ∀ (X : List PK), (∀ p ∈ X, p.symbols_.length = 1) → (qY X).length = X.length
  | [], _ => rfl
  | p :: X, h => by
    have := zT X (fun q hq => h q (by simp [hq]))
    simp only [qY] at this
    simp only [qY, List.flatMap_cons, List.length_append, List.length_cons, this, h p (by simp)]; omega
theorem vk : ∀ (X : List PK) (i : Nat), (∀ p ∈ X, p.symbols_.length = 1) → i < X.length → ∃ s, (qY X)[i]? = some s ∧ (rd X (i : Int)).symbols_ = [s]
  | [], i, _, h => by simp at h
  | p :: X, 0, h, _ => by
    obtain ⟨s, hs⟩ := List.length_eq_one_iff.1 (h p (by simp))
    exact ⟨s, by simp [qY, hs], by simp [rd, hs]⟩
  | p :: X, i + 1, h, hi => by
    obtain ⟨s0, hs0⟩ := List.length_eq_one_iff.1 (h p (by simp))
    obtain ⟨s, h1, h2⟩ := vk X i (fun q hq => h q (by simp [hq])) (by simpa using hi)
    refine ⟨s, ?_, ?_⟩
    · simp only [qY] at h1
      simp [qY, hs0, h1]
    · have : rd (p :: X) ((i + 1 : Nat) : Int) = rd X (i : Int) := by simp [rd]
      rw [this]; exact h2
theorem v6 {Y : List Int} (hn : Y.Nodup) {i : Nat} {s : Int} (hs : Y[i]? = some s) (a : Nat) : (Y.take a).count s = if i < a then 1 else 0 := by
  obtain ⟨hi, rfl⟩ := List.getElem?_eq_some_iff.1 hs
  by_cases h : i < a
  · rw [if_pos h]
    have hm : Y[i] ∈ Y.take a := List.mem_take_iff_getElem.2 ⟨i, by omega, rfl⟩
    have h1 : 0 < (Y.take a).count Y[i] := List.count_pos_iff.2 hm
    have h2 := List.nodup_iff_count.1 (hn.sublist (List.take_sublist a Y)) Y[i]
    omega
  · rw [if_neg h]
    rw [List.count_eq_zero]
    intro hm
    obtain ⟨j, hj, hj2⟩ := List.mem_take_iff_getElem.1 hm
    have hpw := List.pairwise_iff_getElem.1 hn
    rcases Nat.lt_trichotomy i j with h1 | h1 | h1
    · exact hpw i j hi (by omega) h1 hj2.symm
    · omega
    · exact hpw j i (by omega) hi h1 hj2
theorem Q9 (as : List Nat) (i : Nat) : (as.map fun a => if i < a then 1 else 0).sum = ye as i := by
  induction as with
  | nil => rfl
  | cons a r ih =>
    rw [List.map_cons, List.sum_cons, ih]
    unfold ye
    by_cases h : i < a
    · rw [List.filter_cons_of_pos (by simpa using h), if_pos h, List.length_cons]; omega
    · rw [List.filter_cons_of_neg (by simpa using h), if_neg h]; omega
theorem Qk (as : List Nat) {i j : Nat} (h : i ≤ j) : ye as j ≤ ye as i := by
  unfold ye
  induction as with
  | nil => simp
  | cons a r ih =>
    simp only [List.filter_cons]
    by_cases hj : j < a
    · rw [if_pos (by simpa using hj), if_pos (by simp; omega)]; simp; exact ih
    · rw [if_neg (by simpa using hj)]
      split
      · rw [List.length_cons]; omega
      · exact ih
structure Qb (often : List Int) (X : List PK) : Prop where
  one : ∀ p ∈ X, p.symbols_.length = 1
  nod : (qY X).Nodup
  sym : ∀ i, i < X.length → ∃ j : Nat, j < often.length ∧ 0 < rd often (j : Int) ∧ (qY X)[i]? = some (j : Int) ∧ (rd X (i : Int)).often_ = rd often (j : Int)
  has : ∀ j : Nat, j < often.length → 0 < rd often (j : Int) → ∃ i, i < X.length ∧ (qY X)[i]? = some (j : Int)
theorem Qv {often : List Int} {X : List PK} (h : X.Perm (xy often 0)) : Qb often X := by
  have one : ∀ p ∈ X, p.symbols_.length = 1 := fun p hp => by
    obtain ⟨j, _, _, rfl⟩ := ya often 0 p (h.mem_iff.1 hp)
    rfl
  have hp : (qY X).Perm (qY (xy often 0)) := List.Perm.flatMap_right (fun p : PK => p.symbols_) h
  refine ⟨one, hp.nodup_iff.2 (vf often 0), fun i hi => ?_, fun j hj h0 => ?_⟩
  · have hm : rd X (i : Int) ∈ X := by simp only [rd, Int.toNat_natCast, List.getD, List.getElem?_eq_getElem hi]; exact List.getElem_mem hi
    obtain ⟨j, h1, h2, h3⟩ := ya often 0 _ (h.mem_iff.1 hm)
    obtain ⟨s, h4, h5⟩ := vk X i one hi
    have e : s = ((0 + j : Nat) : Int) := by rw [h3] at h5; simpa using h5.symm
    rw [Nat.zero_add] at e
    exact ⟨j, h1, h2, by rw [h4, e], by rw [h3]⟩
  · have hm := h.mem_iff.2 (jo often 0 j hj h0)
    have hs : ((0 + j : Nat) : Int) ∈ qY X := by
      unfold qY
      exact List.mem_flatMap.2 ⟨_, hm, by simp⟩
    obtain ⟨i, hi, he⟩ := List.getElem_of_mem hs
    rw [zT X one] at hi
    rw [Nat.zero_add] at he
    exact ⟨i, hi, by rw [List.getElem?_eq_getElem (by rw [zT X one]; exact hi), he]⟩
theorem u0 {often : List Int} {X : List PK} {most : Int} {L : Nat} (hm : most = (L : Int)) (hL1 : 1 ≤ L) (hL : L ≤ 15) (hN : often.length ≤ 320) (hnn : ∀ n ∈ often, 0 ≤ n) (P : Qb often X) (hs : z9 X) (as : List Nat) (hasl : as.length = L) (D : List Int)
    (hD : ∀ s, D.count s = (as.map fun a => (qY (X.take a)).count s).sum) (hk : ((List.range X.length).map fun i => 2 ^ (L - ye as i)).sum = 2 ^ L) (hX : 2 ≤ X.length) : jq often most (xm often.length D) := by
  have hcnt : ∀ (i : Nat) (s : Int), (qY X)[i]? = some s → D.count s = ye as i := by
    intro i s hi
    rw [hD, ← Q9]
    congr 1
    refine List.map_congr_left fun a _ => ?_
    rw [yb X a P.one, v6 P.nod hi]
  have hrd : ∀ j : Nat, j < often.length → rd (xm often.length D) (j : Int) = ((D.count (j : Int) : Nat) : Int) := fun j hj => yT hj
  have hone : ∀ i, i < X.length → 1 ≤ ye as i := by
    intro i hi
    refine Nat.pos_of_ne_zero fun h0 => ?_
    -- a term is the whole sum already, and there is another one
    have key : ∀ n, i < n → n ≤ X.length → 2 ^ L + (n - 1) ≤ ((List.range n).map fun i => 2 ^ (L - ye as i)).sum := by
      intro n
      induction n with
      | zero => intro h; omega
      | succ n ih =>
        intro h1 h2
        rw [List.range_succ, List.map_append, List.sum_append]
        simp only [List.map_cons, List.map_nil, List.sum_cons, List.sum_nil, Nat.add_zero]
        by_cases hin : i < n
        · have := ih hin (by omega)
          have h3 : 1 ≤ 2 ^ (L - ye as n) := Nat.one_le_two_pow
          omega
        · have : i = n := by omega
          subst this
          rw [h0, Nat.sub_zero]
          have low : ∀ m, m ≤ i → m ≤ ((List.range m).map fun i => 2 ^ (L - ye as i)).sum := by
            intro m
            induction m with
            | zero => intro _; exact Nat.zero_le _
            | succ m ih =>
              intro hm
              rw [List.range_succ, List.map_append, List.sum_append]
              simp only [List.map_cons, List.map_nil, List.sum_cons, List.sum_nil, Nat.add_zero]
              have := ih (by omega)
              have h3 : 1 ≤ 2 ^ (L - ye as m) := Nat.one_le_two_pow
              omega
          have := low i (Nat.le_refl _)
          omega
    have := key X.length hi (Nat.le_refl _)
    omega
  have hle : ∀ i, ye as i ≤ L := fun i => by rw [← hasl]; exact Zo as i
  have hzero : ∀ j : Nat, j < often.length → ¬ 0 < rd often (j : Int) → D.count (j : Int) = 0 := by
    intro j hj h0
    rw [hD]
    have : ∀ a, (qY (X.take a)).count (j : Int) = 0 := by
      intro a
      rw [yb X a P.one, List.count_eq_zero]
      intro hmem
      obtain ⟨i, hi, he⟩ := List.getElem_of_mem (List.mem_of_mem_take hmem)
      rw [zT X P.one] at hi
      obtain ⟨j', h1, h2, h3, _⟩ := P.sym i hi
      rw [List.getElem?_eq_getElem (by rw [zT X P.one]; exact hi), he] at h3
      have : j = j' := by have := Option.some.inj h3; omega
      subst this; exact h0 h2
    have z : ∀ as : List Nat, (as.map fun _ => 0).sum = 0 := by
      intro as
      induction as with
      | nil => rfl
      | cons a r ih => rw [List.map_cons, List.sum_cons, ih]
    simp only [this]
    exact z as
  have hNN : ∀ j : Nat, j < often.length → 0 ≤ rd often (j : Int) := fun j hj => hnn _ (by
    simp only [rd, Int.toNat_natCast, List.getD, List.getElem?_eq_getElem hj]; exact List.getElem_mem hj)
  have rng : ∀ j : Nat, j < often.length → 0 ≤ rd (xm often.length D) (j : Int) ∧ rd (xm often.length D) (j : Int) ≤ most := by
    intro j hj
    rw [hrd j hj, hm]
    by_cases h0 : 0 < rd often (j : Int)
    · obtain ⟨i, hi, h1⟩ := P.has j hj h0
      rw [hcnt i _ h1]
      have := hle i
      omega
    · rw [hzero j hj h0]; omega
  refine ⟨z2 _ _, rng, fun j hj => ?_, ?_, fun i k hi hk0 h0 hlt => ?_⟩
  · rw [hrd j hj]
    by_cases h0 : 0 < rd often (j : Int)
    · obtain ⟨i, hi, h1⟩ := P.has j hj h0
      rw [hcnt i _ h1]
      have := hone i hi
      omega
    · rw [hzero j hj h0]
      have := hNN j hj
      omega
  · -- the sum
    have hok : Xg (xm often.length D) := by
      refine ⟨by rw [z2]; exact hN, fun x hx => ?_⟩
      obtain ⟨j, hj, rfl⟩ := z4 hx
      rw [z2] at hj
      have := rng j hj
      exact ⟨this.1, by omega⟩
    unfold yE
    rw [if_pos hok, if_pos]
    refine .inr (.inr ?_)
    rw [ue]
    -- over the symbols that come at all
    obtain ⟨F, hF⟩ : ∃ F : Int → Nat, ∀ s, F s = wt ((D.count s : Nat) : Int) := ⟨fun s => wt ((D.count s : Nat) : Int), fun _ => rfl⟩
    have e1 : ((xm often.length D).map wt).sum = (((List.range often.length).map fun (j : Nat) => (j : Int)).filter (fun s => decide (0 < rd often s)) |>.map F).sum := by
      have gen : ∀ n, n ≤ often.length → ((xm n D).map wt).sum = (((List.range n).map fun (j : Nat) => (j : Int)).filter (fun s => decide (0 < rd often s)) |>.map F).sum := by
        intro n
        induction n with
        | zero => intro _; rfl
        | succ n ih =>
          intro hn
          have := ih (by omega)
          unfold xm at this ⊢
          rw [List.range_succ, List.map_append, List.map_append, List.sum_append, this, List.map_append, List.filter_append, List.map_append, List.sum_append]
          congr 1
          simp only [List.map_cons, List.map_nil]
          by_cases h0 : 0 < rd often (n : Int)
          · rw [List.filter_cons_of_pos (by simpa using h0)]
            simp [hF]
          · rw [List.filter_cons_of_neg (by simpa using h0), hzero n (by omega) h0]
            simp [wt]
      exact gen _ (Nat.le_refl _)
    have hperm : (((List.range often.length).map fun (j : Nat) => (j : Int)).filter (fun s => decide (0 < rd often s))).Perm (qY X) := by
      refine (List.perm_ext_iff_of_nodup ?_ P.nod).2 fun s => ?_
      · refine List.Pairwise.filter _ ?_
        refine List.Pairwise.map _ ?_ List.nodup_range
        intro a b hab he; exact hab (by have he' : (a : Int) = (b : Int) := he; omega)
      · simp only [List.mem_filter, List.mem_map, List.mem_range, decide_eq_true_eq]
        constructor
        · rintro ⟨⟨j, hj, rfl⟩, h0⟩
          obtain ⟨i, hi, h1⟩ := P.has j hj h0
          exact List.mem_of_getElem? h1
        · intro hs
          obtain ⟨i, hi, he⟩ := List.getElem_of_mem hs
          rw [zT X P.one] at hi
          obtain ⟨j, h1, h2, h3, _⟩ := P.sym i hi
          rw [List.getElem?_eq_getElem (by rw [zT X P.one]; exact hi), he] at h3
          have : s = (j : Int) := by simpa using h3
          subst this
          exact ⟨⟨j, h1, rfl⟩, h2⟩
    rw [e1, (hperm.map F).sum_nat]
    have e2 : (qY X).map F = (List.range X.length).map fun i => wt ((ye as i : Nat) : Int) := by
      apply List.ext_getElem
      · simp [zT X P.one]
      · intro i h1 h2
        simp only [List.length_map, List.length_range] at h2
        simp only [List.getElem_map, List.getElem_range, hF]
        congr 2
        exact hcnt i _ (List.getElem?_eq_getElem _)
    rw [e2]
    have e3 : ∀ n, n ≤ X.length → ((List.range n).map fun i => wt ((ye as i : Nat) : Int)).sum = 2 ^ (15 - L) * ((List.range n).map fun i => 2 ^ (L - ye as i)).sum := by
      intro n
      induction n with
      | zero => intro _; rfl
      | succ n ih =>
        intro hn
        rw [List.range_succ, List.map_append, List.map_append, List.sum_append, List.sum_append, ih (by omega), Nat.mul_add]
        congr 1
        simp only [List.map_cons, List.map_nil, List.sum_cons, List.sum_nil, Nat.add_zero]
        have g1 := hone n (by omega)
        have g2 := hle n
        unfold wt
        rw [if_pos (by omega), Int.toNat_natCast, ← Nat.pow_add]
        congr 1; omega
    rw [e3 _ (Nat.le_refl _), hk, ← Nat.pow_add, show 15 - L + L = 15 from by omega]
  · rw [hrd i hi, hrd k hk0]
    obtain ⟨p, hp, h1⟩ := P.has i hi h0
    obtain ⟨q, hq, h2⟩ := P.has k hk0 (by omega)
    rw [hcnt p _ h1, hcnt q _ h2]
    have : ye as q ≤ ye as p := by
      refine Qk as ?_
      refine Nat.le_of_not_lt fun hlt2 => ?_
      have g := hs.rd (i := q) (j := p) (by omega) hp
      obtain ⟨j1, _, _, e1, e2⟩ := P.sym p hp
      obtain ⟨j2, _, _, e3, e4⟩ := P.sym q hq
      rw [h1] at e1; rw [h2] at e3
      have : i = j1 := by have := Option.some.inj e1; omega
      have : k = j2 := by have := Option.some.inj e3; omega
      subst_vars
      rw [e2, e4] at g
      omega
    omega
end Go.Pu

set_option maxRecDepth 100000
namespace Go.Pu
open Go Go.Sl Go.Mo
theorem u4 (often : List Int) (hnn : ∀ n ∈ often, 0 ≤ n ∧ n ≤ 1099511627776) : ∀ p ∈ xy often 0, p.symbols_.length = 1 ∧ 0 < p.often_ ∧ p.often_ ≤ 1099511627776 := by
  intro p hp
  obtain ⟨j, h1, h2, rfl⟩ := ya often 0 p hp
  have hm : rd often (j : Int) ∈ often := by simp only [rd, Int.toNat_natCast, List.getD, List.getElem?_eq_getElem h1]; exact List.getElem_mem h1
  exact ⟨rfl, h2, (hnn _ hm).2⟩
theorem um (N : Nat) : nz (xm N []) = [] := by
  rw [yM, nz, List.filter_eq_nil_iff]
  intro x hx
  rw [(List.mem_replicate.1 hx).2]; simp
def Zj (often : List Int) (L : Nat) (l : List Int) : Prop := ((xy often 0).length < 2 ∧ ∀ j : Nat, j < often.length → rd l (j : Int) ≤ 1) ∨
  ∃ X R, X.Perm (xy often 0) ∧ Rows X R ∧ 2 ≤ X.length ∧ 1 ≤ L ∧ 2 * X.length - 2 ≤ (R (L - 1)).length ∧ l = xm often.length (qY ((R (L - 1)).take (2 * X.length - 2)))
theorem Qs (K : Nat) (often : List Int) (most : Int) (hK : 6000 ≤ K) (hK2 : (1099511627776 : Nat) > K) (h : Q6 often most) : ∃ l, qk.m K often most = .ok (l, 0) ∧ jq often most l ∧ Zj often most.toNat l := by
  obtain ⟨m1, m2, hN, hnn, hs⟩ := h
  obtain ⟨L, rfl⟩ : ∃ L : Nat, most = (L : Int) := ⟨most.toNat, by omega⟩
  rw [Int.toNat_natCast] at hs
  have hp15 : 2 ^ L ≤ 2 ^ 15 := Nat.pow_le_pow_right (by decide) (by omega)
  have hNN : ∀ j : Nat, j < often.length → 0 ≤ rd often (j : Int) := fun j hj => (hnn _ (by
    simp only [rd, Int.toNat_natCast, List.getD, List.getElem?_eq_getElem hj]; exact List.getElem_mem hj)).1
  -- the Z8 up to the single ones
  have hstart : qk.m K often (L : Int) = qk.j3 K often (L : Int) (xy often 0) := by
    unfold qk.m
    have h1 : (((decide ((L : Int) < (1 : Int))) || (decide ((L : Int) > (15 : Int)))) || (decide ((often.length : Int) > (320 : Int)))) = false := by
      simp only [Bool.or_eq_false_iff, decide_eq_false_iff_not]; omega
    have hc : qV.m K often = .ok (often.any jr) := jb K often (by omega) K [] often rfl (by omega)
    rw [h1, cond_false, hc, qN.bind_ok, (yI often).2 hnn]
    unfold qk.j1
    have := Zd K often (L : Int) (by omega) K [] often [] rfl (by omega) (Nat.le_refl _)
    rw [show (([] : List Int).length : Int) = 0 from rfl] at this
    rw [cond_false, this, List.nil_append]
    rfl
  have hsl := uP often 0
  have hj3 : qk.j3 K often (L : Int) (xy often 0) = if (xy often 0).length = 1 then
      chk (inb (0 : Int) (xy often 0).length) (chk (inb (0 : Int) ((rd (xy often 0) (0 : Int)).symbols_).length) (chk (inb (rd ((rd (xy often 0) (0 : Int)).symbols_) (0 : Int)) (List.replicate often.length (0 : Int)).length)
        (lt ((List.replicate often.length (0 : Int)).set (Int.toNat (rd ((rd (xy often 0) (0 : Int)).symbols_) (0 : Int))) (1 : Int)) fun zs => qk.j4 K (L : Int) (xy often 0) zs)))
      else qk.j4 K (L : Int) (xy often 0) (List.replicate often.length 0) := by
    unfold qk.j3
    rw [yh (by omega), qs, Zx (by omega) (by omega), qt, if_neg (by rw [Int.toNat_natCast]; omega), Int.toNat_natCast, show (decide (0 ≤ (often.length : Int)) && room often.length 8) = true from by rw [Bool.and_eq_true]; exact ⟨yh (by omega), z3 (by omega)⟩, qs, qI, yN]
    by_cases h1 : (xy often 0).length = 1
    · rw [if_pos (by omega), if_pos h1]
    · rw [if_neg (by omega), if_neg h1]
  rw [hstart, hj3]
  have hfacts := u4 often hnn
  by_cases hn : (xy often 0).length < 2
  · by_cases h1 : (xy often 0).length = 1
    · -- one symbol
      rw [if_pos h1]
      obtain ⟨p, hp⟩ := List.length_eq_one_iff.1 h1
      obtain ⟨j, j1, j2, j3⟩ := ya often 0 p (by rw [hp]; simp)
      rw [Nat.zero_add] at j3
      have hr : rd (xy often 0) (0 : Int) = p := by rw [hp]; rfl
      have hr2 : rd p.symbols_ (0 : Int) = (j : Int) := by rw [j3]; rfl
      rw [hr, hr2, h1, show inb (0 : Int) 1 = true from rfl, qs, show inb (0 : Int) p.symbols_.length = true from by rw [j3]; rfl, qs, List.length_replicate, jz j1, qs, qI, Int.toNat_natCast]
      unfold qk.j4
      rw [qt, if_pos (by omega)]
      have e : (List.replicate often.length (0 : Int)).set j 1 = xm often.length [(j : Int)] := by
        have := jQ (N := often.length) (D := []) j1
        rw [yM] at this
        simpa using this
      rw [e]
      have uniq : ∀ i : Nat, i < often.length → 0 < rd often (i : Int) → i = j := by
        intro i hi h0
        have := jo often 0 i hi h0
        rw [hp, List.mem_singleton, j3] at this
        have := congrArg (fun q : PK => q.symbols_) this
        simp at this; omega
      have hc : ∀ i : Nat, i < often.length → rd (xm often.length [(j : Int)]) (i : Int) = if i = j then 1 else 0 := by
        intro i hi
        rw [yT hi]
        by_cases hij : i = j
        · subst hij; simp
        · rw [if_neg hij]
          have : ¬ ((j : Int) = (i : Int)) := by omega
          simp [List.count_cons, this]
      refine ⟨_, rfl, ⟨z2 _ _, fun i hi => ?_, fun i hi => ?_, ?_, fun i k hi hk h0 hlt => ?_⟩, .inl ⟨hn, fun i hi => by rw [hc i hi]; split <;> omega⟩⟩
      · rw [hc i hi]; split <;> omega
      · rw [hc i hi]
        by_cases hij : i = j
        · subst hij; rw [if_pos rfl]; omega
        · rw [if_neg hij]
          have := hNN i hi
          have h2 : ¬ 0 < rd often (i : Int) := fun h => hij (uniq i hi h)
          omega
      · unfold yE
        rw [if_pos, if_pos]
        · refine .inr (.inl ?_)
          rw [← e, nz]
          have gen : ∀ n, ∀ i, i < n → (((List.replicate n (0 : Int)).set i 1).filter fun x => decide (0 < x)) = [1] := by
            intro n
            induction n with
            | zero => intro i h; omega
            | succ n ih =>
              intro i hi
              cases i with
              | zero =>
                have z : ((List.replicate n (0 : Int)).filter fun x => decide (0 < x)) = [] := by
                  rw [List.filter_eq_nil_iff]; intro x hx; rw [(List.mem_replicate.1 hx).2]; simp
                rw [List.replicate_succ, List.set_cons_zero, List.filter_cons_of_pos (by decide), z]
              | succ i => rw [List.replicate_succ, List.set_cons_succ, List.filter_cons_of_neg (by decide), ih i (by omega)]
          exact gen _ j j1
        · refine ⟨by rw [z2]; exact hN, fun x hx => ?_⟩
          obtain ⟨i, hi, rfl⟩ := z4 hx
          rw [z2] at hi
          rw [hc i hi]
          unfold QM
          split <;> omega
      · have := uniq i hi h0
        have := uniq k hk (by omega)
        subst_vars; omega
    · -- none
      rw [if_neg h1]
      unfold qk.j4
      rw [qt, if_pos (by omega), ← yM]
      have h0 : xy often 0 = [] := List.length_eq_zero_iff.1 (by omega)
      have none : ∀ i : Nat, i < often.length → ¬ 0 < rd often (i : Int) := by
        intro i hi hpos
        have := jo often 0 i hi hpos
        rw [h0] at this; cases this
      have hc : ∀ i : Nat, i < often.length → rd (xm often.length []) (i : Int) = 0 := fun i hi => by rw [yT hi]; rfl
      refine ⟨_, rfl, ⟨z2 _ _, fun i hi => by rw [hc i hi]; omega, fun i hi => ?_, ?_, fun i k hi hk hp hlt => (none i hi hp).elim⟩, .inl ⟨hn, fun i hi => by rw [hc i hi]; omega⟩⟩
      · rw [hc i hi]
        have := none i hi; have := hNN i hi; omega
      · unfold yE
        rw [if_pos, if_pos (.inl (um _))]
        refine ⟨by rw [z2]; exact hN, fun x hx => ?_⟩
        obtain ⟨i, hi, rfl⟩ := z4 hx
        rw [z2] at hi
        rw [hc i hi]; unfold QM; omega
  · -- many
    rw [if_neg (by omega)]
    unfold qk.j4
    obtain ⟨X, x1, x2⟩ := jI K (xy often 0) hK2 (by omega) (by omega)
    rw [qt, if_neg (by omega), x2, qN.bind_ok]
    have hXl : X.length = (xy often 0).length := x1.2.1.length_eq
    have g1 : ∀ p ∈ X, p.symbols_.length = 1 := fun p hp => (hfacts p (x1.2.1.mem_iff.1 hp)).1
    have g2 : ∀ p ∈ X, 0 < p.often_ := fun p hp => (hfacts p (x1.2.1.mem_iff.1 hp)).2.1
    have g3 : ∀ p ∈ X, p.often_ ≤ 1099511627776 := fun p hp => (hfacts p (x1.2.1.mem_iff.1 hp)).2.2
    have H := uN K X (by omega) (by omega) hK2 g1 g2 x1.1
    have h5 := ZW K (L : Int) L rfl (by omega) (by omega) (List.replicate often.length 0) X (by omega) (by omega) hK2 g1 g2 x1.1 g3 (L - 1) K 0 (by omega) (by omega)
    rw [show ((0 : Nat) : Int) = 0 from rfl, show zv K X 0 = X from rfl] at h5
    rw [h5]
    unfold qk.j6
    -- enough packets
    have hlack := H.lack (L - 1)
    have hpow : 2 ^ L = 2 ^ (L - 1) + 2 ^ (L - 1) := by
      obtain ⟨q, rfl⟩ : ∃ q, L = q + 1 := ⟨L - 1, by omega⟩
      rw [Nat.pow_succ, Nat.add_sub_cancel]; omega
    have hp1 : 1 ≤ 2 ^ (L - 1) := Nat.one_le_two_pow
    have hr2 : 2 * X.length - (zv K X (L - 1)).length ≤ 2 := by
      refine Nat.le_of_not_lt fun h3 => ?_
      have : 3 * 2 ^ (L - 1) ≤ (2 * X.length - (zv K X (L - 1)).length) * 2 ^ (L - 1) := Nat.mul_le_mul_right _ h3
      omega
    have hm : 2 * X.length - 2 ≤ (zv K X (L - 1)).length := by omega
    have hrl := (jG K X (by omega) (by omega) hK2 (L - 1)).1
    rw [show ql (ql ((2 : Int) * (X.length : Int)) - 2) = ((2 * X.length - 2 : Nat) : Int) from by rw [qw (x := (2 : Int) * (X.length : Int)) (by omega) (by omega), qw (by omega) (by omega)]; omega,
      QH (by omega) (by omega) (by omega), qs, qI, QG]
    have P := Qv x1.2.1
    have hsize := H.size (L - 1) (2 * X.length - 2) hm
    have hsz : (L - 1 + 1) * X.length ≤ 15 * 320 := Nat.mul_le_mul (by omega) (by omega)
    have htl := (List.take_sublist (2 * X.length - 2) (zv K X (L - 1))).length_le
    have hzl : ((zv K X (L - 1)).take (2 * X.length - 2)).length = 2 * X.length - 2 := by rw [List.length_take]; omega
    have hcount := fun s => H.count s (L - 1) (2 * X.length - 2) hm
    have hsyms : ∀ s ∈ qY ((zv K X (L - 1)).take (2 * X.length - 2)), ∃ j : Nat, j < often.length ∧ s = (j : Int) := by
      intro s hs
      have h1 := List.count_pos_iff.2 hs
      rw [hcount] at h1
      obtain ⟨a, ha⟩ : ∃ a, 0 < (qY (X.take a)).count s := by
        refine Classical.byContradiction fun hno => ?_
        have hz : ∀ a, (qY (X.take a)).count s = 0 := fun a => Nat.eq_zero_of_not_pos fun hp => hno ⟨a, hp⟩
        have z : ∀ as : List Nat, (as.map fun _ => 0).sum = 0 := by
          intro as
          induction as with
          | nil => rfl
          | cons a r ih => rw [List.map_cons, List.sum_cons, ih]
        simp only [hz, z] at h1
        omega
      have hmem := List.count_pos_iff.1 ha
      rw [yb X a g1] at hmem
      obtain ⟨i, hi, he⟩ := List.getElem_of_mem (List.mem_of_mem_take hmem)
      rw [zT X g1] at hi
      obtain ⟨j, q1, q2, q3, _⟩ := P.sym i hi
      rw [List.getElem?_eq_getElem (by rw [zT X g1]; exact hi), he] at q3
      exact ⟨j, q1, Option.some.inj q3⟩
    have h7 := ZX K often.length 4800 (by omega) (by omega) K [] ((zv K X (L - 1)).take (2 * X.length - 2)) (by omega) (by simp only [List.nil_append]; omega) (by simp only [List.nil_append]; omega) hsyms
    simp only [List.nil_append] at h7
    rw [show qY [] = [] from rfl, yM, show (([] : List PK).length : Int) = 0 from rfl] at h7
    rw [h7]
    have hk := Qo X.length (vt (zv K X) (L - 1) (2 * X.length - 2)) (H.down _ _) (H.levle _ _ hm)
    rw [vL H (L - 1) _ hm, jl, show L - 1 + 1 = L from by omega] at hk
    have hk2 : ((List.range X.length).map fun i => 2 ^ (L - ye (vt (zv K X) (L - 1) (2 * X.length - 2)) i)).sum = 2 ^ L := by
      have e1 : (2 * X.length - 2) * 2 ^ (L - 1) = (X.length - 1) * 2 ^ L := by
        rw [hpow, Nat.mul_add, ← Nat.add_mul]; congr 1; omega
      have e2 : X.length * 2 ^ L = (X.length - 1) * 2 ^ L + 2 ^ L := by
        conv => lhs; rw [show X.length = (X.length - 1) + 1 from by omega, Nat.add_mul, Nat.one_mul]
      omega
    exact ⟨_, rfl, u0 rfl (by omega) (by omega) hN (fun n hn => (hnn n hn).1) P x1.1 _ (by rw [jl]; omega) _ hcount hk2 (by omega), .inr ⟨X, zv K X, x1.2.1, H, by omega, by omega, hm, rfl⟩⟩
end Go.Pu

set_option maxRecDepth 100000
namespace Go.Pu
open Go Go.Sl Go.Mo
def xp (l : List PK) : Int := (l.map (·.often_)).sum
theorem zS (x : PK) (l : List PK) : xp (x :: l) = x.often_ + xp l := by simp [xp]
theorem jL (a b : List PK) : xp (a ++ b) = xp a + xp b := by simp [xp]
theorem Q8 {l : List PK} (h : ∀ p ∈ l, 0 ≤ p.often_) : 0 ≤ xp l := by
  induction l with
  | nil => exact Int.le_refl _
  | cons x l ih =>
    rw [zS]
    have := h x (List.mem_cons_self ..)
    have := ih fun p hp => h p (List.mem_cons_of_mem _ hp)
    omega
theorem yu {l : List PK} (h : ∀ p ∈ l, 0 ≤ p.often_) {a b : Nat} (hab : a ≤ b) : xp (l.take a) ≤ xp (l.take b) := by
  have e : l.take b = l.take a ++ (l.drop a).take (b - a) := by
    rw [show b = a + (b - a) from by omega, List.take_add, Nat.add_sub_cancel_left]
  rw [e, jL]
  have := Q8 (l := (l.drop a).take (b - a)) fun p hp => h p (List.mem_of_mem_drop (List.mem_of_mem_take hp))
  omega
theorem vv : ∀ (C Z Y : List PK), z9 C → C.Perm (Z ++ Y) → xp (C.take Z.length) ≤ xp Z
  | [], Z, Y, _, hp => by
    have : Z ++ Y = [] := List.nil_perm.1 hp
    rw [(List.append_eq_nil_iff.1 this).1]; exact Int.le_refl _
  | c :: C, Z, Y, hs, hp => by
    have hmin : ∀ x ∈ C, c.often_ ≤ x.often_ := (List.pairwise_cons.1 hs).1
    have hsC : z9 C := (List.pairwise_cons.1 hs).2
    rcases List.mem_append.1 (hp.mem_iff.1 (List.mem_cons_self ..)) with h | h
    · obtain ⟨Z1, Z2, rfl⟩ := List.append_of_mem h
      have hp2 : (c :: C).Perm (c :: ((Z1 ++ Z2) ++ Y)) := by
        refine hp.trans ?_
        simp only [List.append_assoc, List.cons_append]
        exact List.perm_middle
      have := vv C (Z1 ++ Z2) Y hsC (List.Perm.cons_inv hp2)
      have hl : (Z1 ++ c :: Z2).length = (Z1 ++ Z2).length + 1 := by simp; omega
      have hz : xp (Z1 ++ c :: Z2) = c.often_ + xp (Z1 ++ Z2) := by simp only [jL, zS]; omega
      rw [hl, List.take_succ_cons, zS, hz]; omega
    · cases Z with
      | nil => exact Int.le_refl _
      | cons z Z' =>
        obtain ⟨Y1, Y2, rfl⟩ := List.append_of_mem h
        have hp2 : (c :: C).Perm (c :: (z :: (Z' ++ (Y1 ++ Y2)))) := by
          refine hp.trans ?_
          have : (z :: Z' ++ (Y1 ++ c :: Y2)).Perm (c :: (z :: Z' ++ (Y1 ++ Y2))) := by
            rw [← List.append_assoc, ← List.append_assoc]
            exact List.perm_middle
          exact this
        have hC := List.Perm.cons_inv hp2
        have hcz : c.often_ ≤ z.often_ := hmin z (hC.mem_iff.2 (List.mem_cons_self ..))
        have hp3 : C.Perm (Z' ++ (z :: (Y1 ++ Y2))) := hC.trans List.perm_middle.symm
        have := vv C Z' (z :: (Y1 ++ Y2)) hsC hp3
        rw [List.length_cons, List.take_succ_cons, zS, zS]; omega
theorem vW : ∀ {l : List PK}, l.length % 2 = 0 → xp (prs l) = xp l
  | [], _ => rfl
  | [_], h => by simp at h
  | x :: y :: r, h => by
    have := vW (l := r) (by simp only [List.length_cons] at h; omega)
    rw [prs, zS, zS, zS, this]; simp only; omega
section
variable {X : List PK} {R : Nat → List PK} (H : Rows X R)
include H
theorem Rows.nn (t : Nat) : ∀ p ∈ R t, 0 ≤ p.often_ := fun p hp => Int.le_of_lt (H.good t p hp).1
theorem Rows.step (t a m : Nat) (ha : a ≤ X.length) (hm : m ≤ (R t).length) : xp ((R (t + 1)).take (a + m / 2)) ≤ xp (X.take a) + xp ((R t).take m) := by
  have hS := H.succ t
  have hb : (prs (R t)).take (m / 2) = prs ((R t).take (2 * (m / 2))) := yS _ _
  have hl1 : (X.take a).length = a := by rw [List.length_take]; omega
  have hl2 : ((prs (R t)).take (m / 2)).length = m / 2 := by rw [List.length_take, xQ]; omega
  have hp : (R (t + 1)).Perm ((X.take a ++ (prs (R t)).take (m / 2)) ++ (X.drop a ++ (prs (R t)).drop (m / 2))) := by
    refine hS.2.1.trans ?_
    have e1 : X = X.take a ++ X.drop a := (List.take_append_drop a X).symm
    have e2 : prs (R t) = (prs (R t)).take (m / 2) ++ (prs (R t)).drop (m / 2) := (List.take_append_drop _ _).symm
    generalize X.take a = x1 at e1 ⊢
    generalize X.drop a = x2 at e1 ⊢
    generalize (prs (R t)).take (m / 2) = y1 at e2 ⊢
    generalize (prs (R t)).drop (m / 2) = y2 at e2 ⊢
    rw [e1, e2]
    have : (x2 ++ (y1 ++ y2)).Perm (y1 ++ (x2 ++ y2)) := by
      rw [← List.append_assoc, ← List.append_assoc]
      exact List.Perm.append_right _ List.perm_append_comm
    rw [List.append_assoc, List.append_assoc]
    exact List.Perm.append_left _ this
  have h1 := vv (R (t + 1)) _ _ (H.sorted (t + 1)) hp
  rw [List.length_append, hl1, hl2, jL, hb, vW (by rw [List.length_take]; omega)] at h1
  have h2 := yu (H.nn t) (show 2 * (m / 2) ≤ m by omega)
  omega
def vu (a : Nat → Nat) : Nat → Nat
  | 0 => a 0
  | t + 1 => a (t + 1) + vu a t / 2
theorem Rows.low (a : Nat → Nat) (ha : ∀ t, a t ≤ X.length) : ∀ t, vu a t ≤ (R t).length ∧ xp ((R t).take (vu a t)) ≤ ((List.range (t + 1)).map fun s => xp (X.take (a s))).sum
  | 0 => by
    rw [H.zero, vu]
    exact ⟨ha 0, by simp⟩
  | t + 1 => by
    obtain ⟨h1, h2⟩ := Rows.low a ha t
    have hl := H.len t
    have ha1 := ha (t + 1)
    refine ⟨by rw [vu, hl]; omega, ?_⟩
    have := H.step t (a (t + 1)) (vu a t) ha1 h1
    rw [List.range_succ, List.map_append, List.sum_append, vu]
    simp only [List.map_cons, List.map_nil, List.sum_cons, List.sum_nil]
    omega
end
theorem uI (a : Nat → Nat) : ∀ t, ((List.range (t + 1)).map fun s => a s * 2 ^ s).sum < 2 ^ t * (vu a t + 1)
  | 0 => by simp [vu]
  | t + 1 => by
    have h := uI a t
    rw [List.range_succ, List.map_append, List.sum_append, vu]
    simp only [List.map_cons, List.map_nil, List.sum_cons, List.sum_nil]
    have h2 : 2 ^ t * (vu a t + 1) ≤ 2 ^ t * (2 * (vu a t / 2 + 1)) := Nat.mul_le_mul_left _ (by omega)
    have h3 : 2 ^ (t + 1) * (a (t + 1) + vu a t / 2 + 1) = a (t + 1) * 2 ^ (t + 1) + 2 ^ t * (2 * (vu a t / 2 + 1)) := by
      rw [Nat.pow_succ, Nat.mul_assoc (2 ^ t) 2 (vu a t / 2 + 1) |>.symm]
      rw [show a (t + 1) + vu a t / 2 + 1 = a (t + 1) + (vu a t / 2 + 1) from by omega, Nat.mul_add, Nat.mul_comm (a (t + 1))]
    omega
theorem vX {α : Type} (f : Nat → α → Nat) (n : Nat) : ∀ X : List α, ((List.range n).map fun t => (X.map (f t)).sum).sum = (X.map fun x => ((List.range n).map fun t => f t x).sum).sum
  | [] => by
    simp only [List.map_nil, List.sum_nil]
    induction n with
    | zero => rfl
    | succ n ih => rw [List.range_succ, List.map_append, List.sum_append, ih]; rfl
  | x :: X => by
    have := vX f n X
    rw [List.map_cons, List.sum_cons, ← this]
    clear this
    induction n with
    | zero => rfl
    | succ n ih =>
      simp only [List.range_succ, List.map_append, List.sum_append, List.map_cons, List.map_nil, List.sum_cons, List.sum_nil] at ih ⊢
      omega
theorem vi {α : Type} (f : Nat → α → Int) (n : Nat) : ∀ X : List α, ((List.range n).map fun t => (X.map (f t)).sum).sum = (X.map fun x => ((List.range n).map fun t => f t x).sum).sum
  | [] => by
    simp only [List.map_nil, List.sum_nil]
    induction n with
    | zero => rfl
    | succ n ih => rw [List.range_succ, List.map_append, List.sum_append, ih]; rfl
  | x :: X => by
    have := vi f n X
    rw [List.map_cons, List.sum_cons, ← this]
    clear this
    induction n with
    | zero => rfl
    | succ n ih =>
      simp only [List.range_succ, List.map_append, List.sum_append, List.map_cons, List.map_nil, List.sum_cons, List.sum_nil] at ih ⊢
      omega
theorem Z4 (L : Nat) (w : Int) (q : Nat) (hq : q ≤ L) : ((List.range L).map fun t => if L ≤ q + t then w else 0).sum = w * (q : Int) := by
  have gen : ∀ n, n ≤ L → ((List.range n).map fun t => if L ≤ q + t then w else 0).sum = w * ((n - (L - q) : Nat) : Int) := by
    intro n
    induction n with
    | zero => intro _; simp
    | succ n ih =>
      intro hn
      rw [List.range_succ, List.map_append, List.sum_append, ih (by omega)]
      simp only [List.map_cons, List.map_nil, List.sum_cons, List.sum_nil]
      by_cases h : L ≤ q + n
      · rw [if_pos h, show n + 1 - (L - q) = (n - (L - q)) + 1 from by omega, Int.natCast_add, Int.mul_add]; simp
      · rw [if_neg h, show n + 1 - (L - q) = n - (L - q) from by omega]; omega
  rw [gen L (Nat.le_refl _), show L - (L - q) = q from by omega]
theorem Zu (L q : Nat) (hq : q ≤ L) : ((List.range L).map fun t => if L ≤ q + t then 2 ^ t else 0).sum + 2 ^ (L - q) = 2 ^ L := by
  have gen : ∀ n, n ≤ L → ((List.range n).map fun t => if L ≤ q + t then 2 ^ t else 0).sum + (if L - q ≤ n then 2 ^ (L - q) else 2 ^ n) = 2 ^ n := by
    intro n
    induction n with
    | zero =>
      intro _
      split
      · rename_i h; rw [show L - q = 0 from by omega]; rfl
      · rfl
    | succ n ih =>
      intro hn
      have := ih (by omega)
      rw [List.range_succ, List.map_append, List.sum_append]
      simp only [List.map_cons, List.map_nil, List.sum_cons, List.sum_nil]
      rw [Nat.pow_succ]
      by_cases h : L ≤ q + n
      · rw [if_pos h, if_pos (by omega)]
        rw [if_pos (by omega)] at this
        omega
      · rw [if_neg h]
        by_cases h2 : L - q ≤ n + 1
        · rw [if_pos h2, show L - q = n + 1 from by omega, Nat.pow_succ]
          rw [if_neg (by omega)] at this
          omega
        · rw [if_neg h2]
          rw [if_neg (by omega)] at this
          omega
  have := gen L (Nat.le_refl _)
  rwa [if_pos (by omega)] at this
theorem Qi (X : List PK) (p : PK → Bool) : (X.map fun x => if p x = true then x.often_ else 0).sum = xp (X.filter p) := by
  induction X with
  | nil => rfl
  | cons x X ih =>
    rw [List.map_cons, List.sum_cons, ih]
    by_cases h : p x = true
    · rw [if_pos h, List.filter_cons_of_pos h, zS]
    · rw [if_neg h, List.filter_cons_of_neg h]; omega
theorem Qh (X : List PK) (p : PK → Bool) (v : Nat) : (X.map fun x => if p x = true then v else 0).sum = (X.filter p).length * v := by
  induction X with
  | nil => simp
  | cons x X ih =>
    rw [List.map_cons, List.sum_cons, ih]
    by_cases h : p x = true
    · rw [if_pos h, List.filter_cons_of_pos h, List.length_cons, Nat.add_mul]; omega
    · rw [if_neg h, List.filter_cons_of_neg h]; omega
theorem Rows.least {X : List PK} {R : Nat → List PK} (H : Rows X R) (L : Nat) (hL : 1 ≤ L) (lp : PK → Nat) (h1 : ∀ p ∈ X, 1 ≤ lp p ∧ lp p ≤ L) (hk : (X.map fun p => 2 ^ (L - lp p)).sum ≤ 2 ^ L) (_hX : 1 ≤ X.length) :
    xp ((R (L - 1)).take (2 * X.length - 2)) ≤ (X.map fun p => p.often_ * (lp p : Int)).sum := by
  let a : Nat → Nat := fun t => (X.filter fun p => decide (L ≤ lp p + t)).length
  have ha : ∀ t, a t ≤ X.length := fun t => List.length_filter_le ..
  obtain ⟨l1, l2⟩ := H.low a ha (L - 1)
  rw [show L - 1 + 1 = L from by omega] at l2
  -- what the single ones weigh
  have hP : ∀ t, xp (X.take (a t)) ≤ (X.map fun p => if decide (L ≤ lp p + t) = true then p.often_ else 0).sum := by
    intro t
    rw [Qi]
    exact vv X _ (X.filter fun p => !decide (L ≤ lp p + t)) H.srt (by
      have := List.filter_append_perm (fun p => decide (L ≤ lp p + t)) X
      exact this.symm)
  have hsum : ((List.range L).map fun s => xp (X.take (a s))).sum ≤ (X.map fun p => p.often_ * (lp p : Int)).sum := by
    have e : (X.map fun p => p.often_ * (lp p : Int)).sum = ((List.range L).map fun t => (X.map fun p => if decide (L ≤ lp p + t) = true then p.often_ else 0).sum).sum := by
      rw [vi (fun t p => if decide (L ≤ lp p + t) = true then p.often_ else 0)]
      congr 1
      refine List.map_congr_left fun p hp => ?_
      have := Z4 L p.often_ (lp p) (h1 p hp).2
      simp only [decide_eq_true_eq]
      exact this.symm
    rw [e]
    generalize List.range L = r
    induction r with
    | nil => exact Int.le_refl _
    | cons s r ih =>
      rw [List.map_cons, List.sum_cons, List.map_cons, List.sum_cons]
      have := hP s
      omega
  -- so many packets there are
  have hbig := uI a (L - 1)
  rw [show L - 1 + 1 = L from by omega] at hbig
  have hT : ((List.range L).map fun s => a s * 2 ^ s).sum + (X.map fun p => 2 ^ (L - lp p)).sum = X.length * 2 ^ L := by
    have e : ((List.range L).map fun s => a s * 2 ^ s).sum = (X.map fun p => ((List.range L).map fun t => if L ≤ lp p + t then 2 ^ t else 0).sum).sum := by
      rw [← vX (fun t p => if L ≤ lp p + t then 2 ^ t else 0)]
      congr 1
      refine List.map_congr_left fun t _ => ?_
      have := Qh X (fun p => decide (L ≤ lp p + t)) (2 ^ t)
      simp only [decide_eq_true_eq] at this
      exact this.symm
    rw [e]
    have : ∀ Y : List PK, (∀ p ∈ Y, p ∈ X) → (Y.map fun p => ((List.range L).map fun t => if L ≤ lp p + t then 2 ^ t else 0).sum).sum + (Y.map fun p => 2 ^ (L - lp p)).sum = Y.length * 2 ^ L := by
      intro Y
      induction Y with
      | nil => intro _; simp
      | cons p Y ih =>
        intro hY
        have h2 := ih fun q hq => hY q (List.mem_cons_of_mem _ hq)
        have h3 := Zu L (lp p) (h1 p (hY p (List.mem_cons_self ..))).2
        simp only [List.map_cons, List.sum_cons, List.length_cons]
        rw [Nat.add_mul, Nat.one_mul]
        omega
    exact this X fun _ h => h
  have hpow : 2 ^ L = 2 * 2 ^ (L - 1) := by
    obtain ⟨q, rfl⟩ : ∃ q, L = q + 1 := ⟨L - 1, by omega⟩
    rw [Nat.pow_succ, Nat.add_sub_cancel]; omega
  have hm : 2 * X.length - 2 ≤ vu a (L - 1) := by
    refine Nat.le_of_not_lt fun hlt => ?_
    have g1 : 2 ^ (L - 1) * (vu a (L - 1) + 1) ≤ 2 ^ (L - 1) * (2 * X.length - 2) := Nat.mul_le_mul_left _ hlt
    have g2 : X.length * 2 ^ L = 2 ^ (L - 1) * (2 * X.length - 2) + 2 ^ L := by
      rw [hpow]
      obtain ⟨n, hn⟩ : ∃ n, X.length = n + 1 := ⟨X.length - 1, by omega⟩
      rw [hn, show 2 * (n + 1) - 2 = 2 * n from by omega, Nat.add_mul, Nat.one_mul]
      congr 1
      rw [Nat.mul_comm (2 ^ (L - 1)), Nat.mul_assoc, Nat.mul_left_comm]
    omega
  have := yu (H.nn (L - 1)) hm
  omega
end Go.Pu

set_option maxRecDepth 100000
namespace Go.Pu
open Go Go.Sl Go.Mo
def zk (ls : Nat → Nat) : List Int → Nat → Int
  | [], _ => 0
  | x :: r, i => x * (ls i : Int) + zk ls r (i + 1)
def jA (L : Nat) (ls : Nat → Nat) : List Int → Nat → Nat
  | [], _ => 0
  | x :: r, i => (if 0 < x then 2 ^ (L - ls i) else 0) + jA L ls r (i + 1)
def Zi (L : Nat) (ls : Nat → Nat) (D : List Int) : Prop := ∀ j, j < D.length → 0 < D.getD j 0 → 1 ≤ ls j ∧ ls j ≤ L
theorem ut {l : List Int} {i : Nat} : rd l (i : Int) = l.getD i 0 := by simp [rd]
theorem xY (ls : Nat → Nat) (x : Int) : ∀ (D : List Int) (i : Nat), zk ls (D ++ [x]) i = zk ls D i + x * (ls (i + D.length) : Int)
  | [], i => by simp [zk]
  | y :: D, i => by
    rw [List.cons_append, zk, zk, xY ls x D (i + 1), List.length_cons, show i + 1 + D.length = i + (D.length + 1) from by omega]; omega
theorem jB (L : Nat) (ls : Nat → Nat) (x : Int) : ∀ (D : List Int) (i : Nat), jA L ls (D ++ [x]) i = jA L ls D i + (if 0 < x then 2 ^ (L - ls (i + D.length)) else 0)
  | [], i => by simp [jA]
  | y :: D, i => by
    rw [List.cons_append, jA, jA, jB L ls x D (i + 1), List.length_cons, show i + 1 + D.length = i + (D.length + 1) from by omega]; omega
theorem yg {f g : Nat → Nat} : ∀ (D : List Int) (i : Nat), (∀ j, i ≤ j → j < i + D.length → f j = g j) → zk f D i = zk g D i
  | [], i, _ => rfl
  | y :: D, i, h => by
    rw [zk, zk, yg D (i + 1) (fun j h1 h2 => h j (by omega) (by simp only [List.length_cons]; omega)), h i (Nat.le_refl _) (by simp only [List.length_cons]; omega)]
theorem jZ (L : Nat) {f g : Nat → Nat} : ∀ (D : List Int) (i : Nat), (∀ j, i ≤ j → j < i + D.length → f j = g j) → jA L f D i = jA L g D i
  | [], i, _ => rfl
  | y :: D, i, h => by
    rw [jA, jA, jZ L D (i + 1) (fun j h1 h2 => h j (by omega) (by simp only [List.length_cons]; omega)), h i (Nat.le_refl _) (by simp only [List.length_cons]; omega)]
theorem jS (f g : Nat → Nat) : ∀ (D : List Int) (i : Nat), zk (fun j => f j + g j) D i = zk f D i + zk g D i
  | [], i => rfl
  | y :: D, i => by
    rw [zk, zk, zk, jS f g D (i + 1), Int.natCast_add, Int.mul_add]; omega
theorem jv : ∀ (D : List Int) (i : Nat), zk (fun _ => 0) D i = 0
  | [], i => rfl
  | y :: D, i => by rw [zk, jv D (i + 1)]; simp
theorem jT (k : Nat) : ∀ (D : List Int) (i : Nat), zk (fun j => if j = k then 1 else 0) D i = if i ≤ k then D.getD (k - i) 0 else 0
  | [], i => by simp [zk]
  | y :: D, i => by
    rw [zk, jT k D (i + 1)]
    by_cases h : i = k
    · subst h
      rw [if_pos rfl, if_neg (by omega), if_pos (Nat.le_refl _), Nat.sub_self, List.getD_cons_zero]; simp
    · rw [if_neg h]
      by_cases h2 : i + 1 ≤ k
      · rw [if_pos h2, if_pos (by omega), show k - i = (k - (i + 1)) + 1 from by omega, List.getD_cons_succ]; simp
      · rw [if_neg h2, if_neg (by omega)]; simp
theorem xU {L : Nat} {ls : Nat → Nat} (hL : L ≤ 8) : ∀ (D : List Int) (i : Nat), (∀ n ∈ D, 0 ≤ n ∧ n ≤ 1099511627776) → (∀ j, j < D.length → 0 < D.getD j 0 → ls (i + j) ≤ L) → 0 ≤ zk ls D i ∧ zk ls D i ≤ 8796093022208 * (D.length : Int)
  | [], i, _, _ => by simp [zk]
  | y :: D, i, hb, hv => by
    have h1 := xU hL D (i + 1) (fun n hn => hb n (List.mem_cons_of_mem _ hn)) (fun j hj h0 => by
      have := hv (j + 1) (by simp only [List.length_cons]; omega) (by rw [List.getD_cons_succ]; exact h0)
      rwa [show i + (j + 1) = i + 1 + j from by omega] at this)
    have hy := hb y (List.mem_cons_self ..)
    have h2 : 0 ≤ y * (ls i : Int) ∧ y * (ls i : Int) ≤ 8796093022208 := by
      by_cases h0 : 0 < y
      · have := hv 0 (by simp) (by rw [List.getD_cons_zero]; exact h0)
        rw [Nat.add_zero] at this
        refine ⟨Int.mul_nonneg hy.1 (by omega), ?_⟩
        have h3 : y * (ls i : Int) ≤ 1099511627776 * (8 : Int) := Int.mul_le_mul hy.2 (by omega) (by omega) (by decide)
        omega
      · have : y = 0 := by omega
        subst this; simp
    rw [zk, List.length_cons, Int.natCast_add, Int.mul_add]
    omega
theorem ju {f g : Nat → Nat} : ∀ (D : List Int) (i : Nat), (∀ n ∈ D, 0 ≤ n) → (∀ j, j < D.length → 0 < D.getD j 0 → f (i + j) ≤ g (i + j)) → zk f D i ≤ zk g D i
  | [], i, _, _ => Int.le_refl _
  | y :: D, i, hb, hv => by
    have h1 := ju (f := f) (g := g) D (i + 1) (fun n hn => hb n (List.mem_cons_of_mem _ hn)) (fun j hj h0 => by
      have := hv (j + 1) (by simp only [List.length_cons]; omega) (by rw [List.getD_cons_succ]; exact h0)
      rwa [show i + (j + 1) = i + 1 + j from by omega] at this)
    have hy := hb y (List.mem_cons_self ..)
    have h2 : y * (f i : Int) ≤ y * (g i : Int) := by
      by_cases h0 : 0 < y
      · have := hv 0 (by simp) (by rw [List.getD_cons_zero]; exact h0)
        rw [Nat.add_zero] at this
        exact Int.mul_le_mul_of_nonneg_left (by omega) hy
      · have : y = 0 := by omega
        subst this; simp
    rw [zk, zk]; omega
def u7 (p : PK) : Nat := (p.symbols_.getD 0 0).toNat
theorem vT (ls : Nat → Nat) : ∀ (D : List Int) (i : Nat), (∀ n ∈ D, 0 ≤ n) → ((xy D i).map fun p => p.often_ * (ls (u7 p) : Int)).sum = zk ls D i
  | [], i, _ => rfl
  | y :: D, i, h => by
    have h1 := vT ls D (i + 1) fun n hn => h n (List.mem_cons_of_mem _ hn)
    have hy := h y (List.mem_cons_self ..)
    rw [xy, zk]
    by_cases h0 : 0 < y
    · rw [if_pos h0, List.map_cons, List.sum_cons, h1]
      simp [u7]
    · rw [if_neg h0, h1, show y = 0 from by omega]; simp
theorem QE (L : Nat) (ls : Nat → Nat) : ∀ (D : List Int) (i : Nat), ((xy D i).map fun p => 2 ^ (L - ls (u7 p))).sum = jA L ls D i
  | [], i => rfl
  | y :: D, i => by
    have h1 := QE L ls D (i + 1)
    rw [xy, jA]
    by_cases h0 : 0 < y
    · rw [if_pos h0, if_pos h0, List.map_cons, List.sum_cons, h1]
      simp [u7]
    · rw [if_neg h0, if_neg h0, h1]; omega
theorem u5 {a b : List Int} (h : a.Perm b) : a.sum = b.sum := by
  induction h with
  | nil => rfl
  | cons x _ ih => rw [List.sum_cons, List.sum_cons, ih]
  | swap x y l => simp only [List.sum_cons]; omega
  | trans _ _ h1 h2 => rw [h1, h2]
theorem u6 {a b : List Nat} (h : a.Perm b) : a.sum = b.sum := by
  induction h with
  | nil => rfl
  | cons x _ ih => rw [List.sum_cons, List.sum_cons, ih]
  | swap x y l => simp only [List.sum_cons]; omega
  | trans _ _ h1 h2 => rw [h1, h2]
theorem Rows.weigh {X : List PK} {R : Nat → List PK} (H : Rows X R) (often : List Int) (hX : ∀ p ∈ X, p.often_ = (p.symbols_.map fun s => rd often s).sum) : ∀ t, ∀ p ∈ R t, p.often_ = (p.symbols_.map fun s => rd often s).sum
  | 0, p, hp => by rw [H.zero] at hp; exact hX p hp
  | t + 1, p, hp => by
    rcases List.mem_append.1 ((H.succ t).2.1.mem_iff.1 hp) with h | h
    · exact hX p h
    · obtain ⟨u, hu, v, hv, h1, h2⟩ := yR h
      rw [h1, h2, Rows.weigh H often hX t u hu, Rows.weigh H often hX t v hv, List.map_append, List.sum_append]
theorem vh (often : List Int) : ∀ l : List PK, (∀ p ∈ l, p.often_ = (p.symbols_.map fun s => rd often s).sum) → xp l = ((qY l).map fun s => rd often s).sum
  | [], _ => rfl
  | p :: l, h => by
    rw [zS, vh often l fun q hq => h q (List.mem_cons_of_mem _ hq), h p (List.mem_cons_self ..)]
    simp only [qY, List.flatMap_cons, List.map_append, List.sum_append]
theorem vl (often : List Int) : ∀ S : List Int, (∀ s ∈ S, ∃ j : Nat, j < often.length ∧ s = (j : Int)) → (S.map fun s => rd often s).sum = zk (fun j => S.count (j : Int)) often 0
  | [], _ => by simp [jv]
  | s :: S, h => by
    obtain ⟨k, hk, rfl⟩ := h s (List.mem_cons_self ..)
    have h1 := vl often S fun q hq => h q (List.mem_cons_of_mem _ hq)
    have e : (fun j : Nat => ((k : Int) :: S).count (j : Int)) = fun j : Nat => S.count (j : Int) + (fun j : Nat => if j = k then 1 else 0) j := by
      funext j
      rw [List.count_cons]
      congr 1
      by_cases hj : j = k
      · subst hj; simp
      · have : ¬ ((k : Int) = (j : Int)) := by omega
        simp [hj, this]
    rw [List.map_cons, List.sum_cons, h1, e, jS, jT, if_pos (Nat.zero_le _), Nat.sub_zero, ut]; omega
theorem y9 {X : List PK} {R : Nat → List PK} (H : Rows X R) (Q : Int → Prop) (hX : ∀ p ∈ X, ∀ s ∈ p.symbols_, Q s) : ∀ t, ∀ p ∈ R t, ∀ s ∈ p.symbols_, Q s
  | 0, p, hp => by rw [H.zero] at hp; exact hX p hp
  | t + 1, p, hp => by
    rcases List.mem_append.1 ((H.succ t).2.1.mem_iff.1 hp) with h | h
    · exact hX p h
    · obtain ⟨u, hu, v, hv, _, h2⟩ := yR h
      intro s hs
      rw [h2] at hs
      rcases List.mem_append.1 hs with h3 | h3
      · exact y9 H Q hX t u hu s h3
      · exact y9 H Q hX t v hv s h3
def j0 (l : List Int) (j : Nat) : Nat := (l.getD j 0).toNat
theorem Qq {often l : List Int} {most : Int} {L : Nat} (hm : most = (L : Int)) (hL : 1 ≤ L) (h : jq often most l) (hF : Zj often L l) (hnn : ∀ n ∈ often, 0 ≤ n) (ls : Nat → Nat) (hv : Zi L ls often) (hk : jA L ls often 0 ≤ 2 ^ L) : zk (j0 l) often 0 ≤ zk ls often 0 := by
  rcases hF with ⟨h1, h2⟩ | ⟨X, R, hp, H, hX2, _, hlen, rfl⟩
  · refine ju often 0 hnn fun j hj h0 => ?_
    rw [Nat.zero_add]
    have := h2 j hj
    have h3 := (hv j hj h0).1
    rw [ut] at this
    unfold j0
    omega
  · have hsym : ∀ p ∈ X, ∃ j : Nat, j < often.length ∧ 0 < rd often (j : Int) ∧ p = ⟨rd often (j : Int), [(j : Int)]⟩ := by
      intro p hpx
      obtain ⟨j, h1, h2, h3⟩ := ya often 0 p (hp.mem_iff.1 hpx)
      rw [Nat.zero_add] at h3
      exact ⟨j, h1, h2, h3⟩
    have hweigh := H.weigh often (fun p hpx => by obtain ⟨j, _, _, rfl⟩ := hsym p hpx; simp)
    have hmem := y9 H (fun s => ∃ j : Nat, j < often.length ∧ s = (j : Int)) (fun p hpx s hs => by
      obtain ⟨j, hj, _, rfl⟩ := hsym p hpx
      rw [List.mem_singleton] at hs
      exact ⟨j, hj, hs⟩)
    -- the program's cost
    have hcost : zk (j0 (xm often.length (qY ((R (L - 1)).take (2 * X.length - 2))))) often 0 = xp ((R (L - 1)).take (2 * X.length - 2)) := by
      rw [vh often _ (fun p hpr => hweigh (L - 1) p (List.mem_of_mem_take hpr)), vl often _ (fun s hs => by
        unfold qY at hs
        obtain ⟨p, hpr, hs2⟩ := List.mem_flatMap.1 hs
        exact hmem (L - 1) p (List.mem_of_mem_take hpr) s hs2)]
      refine yg often 0 fun j _ hj => ?_
      unfold j0
      rw [← ut, yT (by omega), Int.toNat_natCast]
    rw [hcost]
    have := H.least L hL (fun p => ls (u7 p)) (fun p hpx => by
      obtain ⟨j, hj, h0, rfl⟩ := hsym p hpx
      rw [ut] at h0
      have := hv j hj h0
      simpa [u7] using this) (by
        rw [u6 (hp.map _), QE]; exact hk) (by omega)
    rw [u5 (hp.map _), vT ls often 0 hnn] at this
    exact this
theorem uG {L : Nat} {l : List Int} : ∀ (often : List Int) (i : Nat), (∀ j, j < often.length → 0 ≤ l.getD (i + j) 0 ∧ l.getD (i + j) 0 ≤ (L : Int) ∧ (l.getD (i + j) 0 = 0 ↔ often.getD j 0 = 0)) → (∀ n ∈ often, 0 ≤ n) → L ≤ 15 → l.length ≤ i + often.length →
    jA L (j0 l) often i * 2 ^ (15 - L) = ((l.drop i).map wt).sum
  | [], i, _, _, _, hl => by
    rw [List.drop_eq_nil_of_le (by simpa using hl)]; simp [jA]
  | y :: often, i, h, hnn, hL, hl => by
    have h0 := h 0 (by simp)
    rw [Nat.add_zero, List.getD_cons_zero] at h0
    have hy := hnn y (List.mem_cons_self ..)
    have ih := uG (L := L) (l := l) often (i + 1) (fun j hj => by
      have := h (j + 1) (by simp only [List.length_cons]; omega)
      rwa [List.getD_cons_succ, show i + (j + 1) = i + 1 + j from by omega] at this) (fun n hn => hnn n (List.mem_cons_of_mem _ hn)) hL (by simp only [List.length_cons] at hl; omega)
    rw [jA, Nat.add_mul, ih]
    by_cases hil : i < l.length
    · rw [yC hil, List.map_cons, List.sum_cons]
      congr 1
      have e : l.getD i 0 = l[i] := uC hil
      rw [e] at h0
      unfold wt j0
      rw [e]
      by_cases hy0 : 0 < y
      · have : l[i] ≠ 0 := fun he => by have := h0.2.2.1 he; omega
        rw [if_pos hy0, if_pos (by omega), ← Nat.pow_add]
        congr 1
        omega
      · have : l[i] = 0 := h0.2.2.2 (by omega)
        rw [if_neg hy0, if_neg (by omega), Nat.zero_mul]
    · have e : l.getD i 0 = 0 := by rw [List.getD_eq_getElem?_getD, List.getElem?_eq_none (by omega)]; rfl
      rw [e] at h0
      have : y = 0 := h0.2.2.1 rfl
      rw [List.drop_eq_nil_of_le (by omega), List.drop_eq_nil_of_le (by omega), if_neg (by omega)]; simp
end Go.Pu

set_option maxRecDepth 100000
namespace Go.Pu
open Go Go.Sl Go.Mo
def xk : Int := 4611686018427387904
structure u9 (L : Nat) (D : List Int) (b : List Int) : Prop where
  len : b.length = 2 ^ L + 1
  low : ∀ k, k ≤ 2 ^ L → ∀ ls, Zi L ls D → jA L ls D 0 = k → b.getD k 0 ≤ zk ls D 0
  att : ∀ k, k ≤ 2 ^ L → b.getD k 0 = xk ∨ ∃ ls, Zi L ls D ∧ jA L ls D 0 = k ∧ b.getD k 0 = zk ls D 0
theorem jN {L : Nat} {ls : Nat → Nat} {D : List Int} {x : Int} : Zi L ls (D ++ [x]) ↔ Zi L ls D ∧ (0 < x → 1 ≤ ls D.length ∧ ls D.length ≤ L) := by
  constructor
  · intro h
    refine ⟨fun j hj h0 => h j (by rw [List.length_append]; omega) ?_, fun hx => h D.length (by simp) ?_⟩
    · rw [List.getD_eq_getElem?_getD, List.getElem?_append_left hj, ← List.getD_eq_getElem?_getD]; exact h0
    · rw [List.getD_eq_getElem?_getD, List.getElem?_append_right (Nat.le_refl _)]; simpa using hx
  · intro h j hj h0
    by_cases hjd : j < D.length
    · refine h.1 j hjd ?_
      rwa [List.getD_eq_getElem?_getD, List.getElem?_append_left hjd, ← List.getD_eq_getElem?_getD] at h0
    · have : j = D.length := by rw [List.length_append, List.length_singleton] at hj; omega
      subst this
      refine h.2 ?_
      rw [List.getD_eq_getElem?_getD, List.getElem?_append_right (Nat.le_refl _)] at h0
      simpa using h0
theorem u9.zero {L : Nat} {D b : List Int} (h : u9 L D b) : u9 L (D ++ [0]) b := by
  have hk : ∀ ls, jA L ls (D ++ [0]) 0 = jA L ls D 0 := fun ls => by rw [jB, if_neg (by omega)]; omega
  have hc : ∀ ls, zk ls (D ++ [0]) 0 = zk ls D 0 := fun ls => by rw [xY]; simp
  have hv : ∀ ls, Zi L ls (D ++ [0]) ↔ Zi L ls D := fun ls => by rw [jN]; exact ⟨fun h => h.1, fun h => ⟨h, fun h => absurd h (by decide)⟩⟩
  refine ⟨h.len, fun k hk1 ls h1 h2 => ?_, fun k hk1 => ?_⟩
  · rw [hc]; rw [hk] at h2; exact h.low k hk1 ls ((hv ls).1 h1) h2
  · rcases h.att k hk1 with h1 | ⟨ls, h1, h2, h3⟩
    · exact .inl h1
    · exact .inr ⟨ls, (hv ls).2 h1, by rw [hk]; exact h2, by rw [hc]; exact h3⟩
def jt (L : Nat) (b : List Int) (x : Int) (k : Nat) (v : Int) : Prop :=
  (∀ q, 1 ≤ q → q ≤ L → 2 ^ (L - q) ≤ k → b.getD (k - 2 ^ (L - q)) 0 < xk → v ≤ b.getD (k - 2 ^ (L - q)) 0 + x * (q : Int)) ∧
  (v = xk ∨ ∃ q, 1 ≤ q ∧ q ≤ L ∧ 2 ^ (L - q) ≤ k ∧ b.getD (k - 2 ^ (L - q)) 0 < xk ∧ v = b.getD (k - 2 ^ (L - q)) 0 + x * (q : Int))
def Xj (ls : Nat → Nat) (n q : Nat) : Nat → Nat := fun j => if j = n then q else ls j
theorem ZA (ls : Nat → Nat) (n q : Nat) : Xj ls n q n = q := if_pos rfl
theorem ZB (ls : Nat → Nat) {n q j : Nat} (h : j < n) : Xj ls n q j = ls j := if_neg (by omega)
theorem u9.add {L : Nat} (hL : L ≤ 8) {D b b' : List Int} {x : Int} (hx : 0 < x) (hD : ∀ n ∈ D, 0 ≤ n ∧ n ≤ 1099511627776) (hDl : D.length ≤ 30) (h : u9 L D b) (hl : b'.length = 2 ^ L + 1) (hb : ∀ k, k ≤ 2 ^ L → jt L b x k (b'.getD k 0)) : u9 L (D ++ [x]) b' := by
  have hkr : ∀ ls, jA L ls (D ++ [x]) 0 = jA L ls D 0 + 2 ^ (L - ls D.length) := fun ls => by rw [jB, if_pos hx, Nat.zero_add]
  have hc : ∀ ls, zk ls (D ++ [x]) 0 = zk ls D 0 + x * (ls D.length : Int) := fun ls => by rw [xY, Nat.zero_add]
  refine ⟨hl, fun k hk ls h1 h2 => ?_, fun k hk => ?_⟩
  · obtain ⟨v1, v2⟩ := jN.1 h1
    have v3 := v2 hx
    rw [hkr] at h2
    have hlow := h.low (k - 2 ^ (L - ls D.length)) (Nat.le_trans (Nat.sub_le _ _) hk) ls v1 (by omega)
    have hbd := (xU (L := L) (ls := ls) hL D 0 hD (fun j hj h0 => by rw [Nat.zero_add]; exact (v1 j hj h0).2)).2
    have := (hb k hk).1 (ls D.length) v3.1 v3.2 (by omega) (by unfold xk; omega)
    rw [hc]; omega
  · rcases (hb k hk).2 with h1 | ⟨q, q1, q2, q3, q4, q5⟩
    · exact .inl h1
    · right
      rcases h.att (k - 2 ^ (L - q)) (Nat.le_trans (Nat.sub_le _ _) hk) with h2 | ⟨ls, a1, a2, a3⟩
      · omega
      · have e : ∀ j, j < D.length → Xj ls D.length q j = ls j := fun j hj => ZB ls hj
        have eD := ZA ls D.length q
        refine ⟨Xj ls D.length q, jN.2 ⟨fun j hj h0 => by rw [e j hj]; exact a1 j hj h0, fun _ => by rw [eD]; exact ⟨q1, q2⟩⟩, ?_, ?_⟩
        · rw [hkr, eD, jZ L D 0 (fun j _ hj => e j (by omega)), a2]; omega
        · rw [hc, eD, yg D 0 (fun j _ hj => e j (by omega)), q5, a3]
theorem vK {q : Nat} (hq : q ≤ 8) : xn .i64 1 (q : Int) = ((2 ^ q : Nat) : Int) := by
  have : ∀ q : Fin 9, xn .i64 1 ((q.val : Nat) : Int) = ((2 ^ q.val : Nat) : Int) := by decide
  exact this ⟨q, by omega⟩
theorem xF (l : List Int) (i j : Nat) (v : Int) : (l.set i v).getD j 0 = if i = j ∧ i < l.length then v else l.getD j 0 := by
  by_cases h : i = j
  · subst h
    by_cases hl : i < l.length
    · rw [if_pos ⟨rfl, hl⟩]; simp [List.getD, List.getElem?_set_self hl]
    · rw [if_neg (fun h => hl h.2), List.set_eq_of_length_le (by omega)]
  · rw [if_neg (fun h2 => h h2.1)]; simp [List.getD, List.getElem?_set_ne h]
theorem QD {l : List Int} {k : Nat} (h : k < l.length) : l.set k (l.getD k 0) = l := by
  apply List.ext_getElem (by simp)
  intro i h1 h2
  rw [List.getElem_set]
  split
  · rename_i h3; subst h3; rw [uC h]
  · rfl
theorem uY (K : Nat) (g : List Int → Int → qN Int) (often : List Int) (L : Nat) (hL : L ≤ 8) (b : List Int) (i : Nat) (x : Int) (hx : rd often (i : Int) = x) (hx0 : 0 ≤ x) (hx1 : x ≤ 1099511627776) (hb : b.length = 2 ^ L + 1) (hbv : ∀ k, k ≤ 2 ^ L → 0 ≤ b.getD k 0 ∧ (b.getD k 0 < xk → b.getD k 0 ≤ 300000000000000)) (k : Nat) (hk : k ≤ 2 ^ L) :
    ∀ (m f q : Nat) (nx : List Int), q + m = L + 1 → m < f → 1 ≤ q → nx.length = 2 ^ L + 1 →
      ((∀ r, 1 ≤ r → r < q → 2 ^ (L - r) ≤ k → b.getD (k - 2 ^ (L - r)) 0 < xk → nx.getD k 0 ≤ b.getD (k - 2 ^ (L - r)) 0 + x * (r : Int)) ∧
       (nx.getD k 0 = xk ∨ ∃ r, 1 ≤ r ∧ r < q ∧ 2 ^ (L - r) ≤ k ∧ b.getD (k - 2 ^ (L - r)) 0 < xk ∧ nx.getD k 0 = b.getD (k - 2 ^ (L - r)) 0 + x * (r : Int))) →
      ∃ v, jt L b x k v ∧ qe.l5 K g often (L : Int) b (i : Int) (k : Int) f nx (q : Int) = g (nx.set k v) ((k + 1 : Nat) : Int) := by
  intro m
  have hp8 : 2 ^ L ≤ 2 ^ 8 := Nat.pow_le_pow_right (by decide) hL
  induction m with
  | zero =>
    intro f q nx hq hf h1 hl hI
    obtain ⟨f, rfl⟩ : ∃ z, f = z + 1 := ⟨f - 1, by omega⟩
    have e : ql ((k : Int) + 1) = ((k + 1 : Nat) : Int) := by rw [qw (by omega) (by omega)]; omega
    rw [qe.l5, qt, if_neg (by omega), qI, e]
    refine ⟨nx.getD k 0, ⟨fun r r1 r2 => hI.1 r r1 (by omega), ?_⟩, by rw [QD (by omega)]⟩
    rcases hI.2 with h | ⟨r, r1, r2, r3⟩
    · exact .inl h
    · exact .inr ⟨r, r1, by omega, r3⟩
  | succ m ih =>
    intro f q nx hq hf h1 hl hI
    obtain ⟨f, rfl⟩ : ∃ z, f = z + 1 := ⟨f - 1, by omega⟩
    have e0 : ql ((L : Int) - (q : Int)) = ((L - q : Nat) : Int) := by rw [qw (by omega) (by omega)]; omega
    have e1 : wr .u64 ((L - q : Nat) : Int) = ((L - q : Nat) : Int) := xX (by omega) (by omega)
    have e2 : ql ((q : Int) + 1) = ((q + 1 : Nat) : Int) := by rw [qw (by omega) (by omega)]; omega
    have hpp := Nat.two_pow_pos (L - q)
    have hpq : 2 ^ (L - q) ≤ 2 ^ 8 := Nat.pow_le_pow_right (by decide) (by omega)
    rw [qe.l5, qt, if_pos (by omega), e0, e1, yh (by omega), qs, vK (by omega), qI, qt]
    -- nothing is put
    have skip : (∀ hp : 2 ^ (L - q) ≤ k, b.getD (k - 2 ^ (L - q)) 0 < xk → nx.getD k 0 ≤ b.getD (k - 2 ^ (L - q)) 0 + x * (q : Int)) →
        ∃ v, jt L b x k v ∧ qe.l5 K g often (L : Int) b (i : Int) (k : Int) f nx ((q + 1 : Nat) : Int) = g (nx.set k v) ((k + 1 : Nat) : Int) := by
      intro hs
      refine ih f (q + 1) nx (by omega) (by omega) (by omega) hl ⟨fun r r1 r2 r3 r4 => ?_, ?_⟩
      · by_cases hr : r = q
        · subst hr; exact hs r3 r4
        · exact hI.1 r r1 (by omega) r3 r4
      · rcases hI.2 with h | ⟨r, r1, r2, r3⟩
        · exact .inl h
        · exact .inr ⟨r, r1, by omega, r3⟩
    by_cases hpk : 2 ^ (L - q) ≤ k
    · have e3 : ql ((k : Int) - ((2 ^ (L - q) : Nat) : Int)) = ((k - 2 ^ (L - q) : Nat) : Int) := by rw [qw (by omega) (by omega)]; omega
      have hbk := hbv (k - 2 ^ (L - q)) (by omega)
      rw [if_pos (by omega), e3, zH (by omega), qs, ut, qt]
      by_cases hno : b.getD (k - 2 ^ (L - q)) 0 < xk
      · have hb3 := hbk.2 hno
        have hxq : 0 ≤ x * (q : Int) ∧ x * (q : Int) ≤ 1099511627776 * 8 := ⟨Int.mul_nonneg hx0 (by omega), Int.mul_le_mul hx1 (by omega) (by omega) (by decide)⟩
        rw [if_pos (show b.getD (k - 2 ^ (L - q)) 0 < (4611686018427387904 : Int) from hno), zH (by omega), qs, hx, qw (x := x * (q : Int)) (by omega) (by omega), qw (x := _ + _) (by omega) (by omega), ut]
        unfold qe.j6
        rw [qt]
        by_cases hlt : b.getD (k - 2 ^ (L - q)) 0 + x * (q : Int) < nx.getD k 0
        · rw [if_pos hlt, e3, zH (by omega), qs, zH (by omega), qs, ut, hx, qw (x := x * (q : Int)) (by omega) (by omega), qw (x := _ + _) (by omega) (by omega), Int.toNat_natCast, qI, qI, e2]
          have hg : (nx.set k (b.getD (k - 2 ^ (L - q)) 0 + x * (q : Int))).getD k 0 = b.getD (k - 2 ^ (L - q)) 0 + x * (q : Int) := by rw [xF, if_pos ⟨rfl, by omega⟩]
          obtain ⟨v, v1, v2⟩ := ih f (q + 1) (nx.set k (b.getD (k - 2 ^ (L - q)) 0 + x * (q : Int))) (by omega) (by omega) (by omega) (by rw [List.length_set]; exact hl) ⟨fun r r1 r2 r3 r4 => by
              rw [hg]
              by_cases hr : r = q
              · subst hr; exact Int.le_refl _
              · have := hI.1 r r1 (by omega) r3 r4; omega, .inr ⟨q, h1, by omega, hpk, hno, hg⟩⟩
          exact ⟨v, v1, by rw [v2, List.set_set]⟩
        · rw [if_neg hlt, qI, e2]
          exact skip fun _ _ => by omega
      · rw [if_neg (show ¬ b.getD (k - 2 ^ (L - q)) 0 < (4611686018427387904 : Int) from hno)]
        unfold qe.j6
        rw [cond_false, qI, e2]
        exact skip fun _ h => absurd h hno
    · rw [if_neg (by omega)]
      unfold qe.j6
      rw [cond_false, qI, e2]
      exact skip fun hp => absurd hp hpk
end Go.Pu

namespace Go.Pu
open Go Go.Sl Go.Mo
theorem uj (K : Nat) (hK : 2000 ≤ K) : qH.m K = .ok true := by
  obtain ⟨m, rfl⟩ : ∃ m, K = m + 2000 := ⟨K - 2000, by omega⟩
  kernel_rfl
theorem vS (K : Nat) (a : List Int) (hl : a.length < 140737488355328) : ∀ (k i : Nat), a.length < i + k → i ≤ a.length → qF.l1 K a a k (i : Int) = .ok true := by
  intro k
  induction k with
  | zero => intro i h1 h2; omega
  | succ k ih =>
    intro i h1 h2
    unfold qF.l1
    by_cases h : i < a.length
    · have h3 : decide ((i : Int) < (a.length : Int)) = true := by simp only [decide_eq_true_eq]; omega
      rw [h3, cond_true, zH h, qs, qs]
      rw [show (rd a (i : Int) != rd a (i : Int)) = false by simp, cond_false]
      have e : ql ((i : Int) + 1) = ((i + 1 : Nat) : Int) := by rw [qw (by omega) (by omega)]; rfl
      simp only [qI, e]
      exact ih (i + 1) (by omega) (by omega)
    · have h3 : decide ((i : Int) < (a.length : Int)) = false := by simp only [decide_eq_false_iff_not]; omega
      rw [h3, cond_false]
theorem vR (K : Nat) (a : List Int) (hl : a.length < 140737488355328) (hK : a.length < K) : qF.m K a a = .ok true := by
  unfold qF.m
  rw [show (((a.length : Int)) != (a.length : Int)) = false by simp, cond_false]
  exact vS K a hl K 0 (by omega) (by omega)
end Go.Pu

set_option maxRecDepth 100000
namespace Go.Pu
open Go Go.Sl Go.Mo
theorem u1 (K : Nat) (often : List Int) (most : Int) (hl : often.length ≤ 320) : ∀ (k : Nat) (D T : List Int) (n : Nat), D ++ T = often → T.length < k → n ≤ D.length →
    qC.l1 K often most k (n : Int) (D.length : Int) = if T.any jr = true then .ok false else qC.j2 K most ((n + (xy T D.length).length : Nat) : Int) := by
  intro k
  induction k with
  | zero => intro D T n _ h; omega
  | succ k ih =>
    intro D T n h1 h2 h3
    have hlen : D.length + T.length = often.length := by rw [← h1]; simp
    rw [qC.l1, qt]
    cases T with
    | nil => rw [if_neg (by simp only [List.length_nil] at hlen; omega)]; simp [xy]
    | cons x T =>
      simp only [List.length_cons] at h2 hlen
      have hn : ql ((D.length : Int) + 1) = ((D ++ [x]).length : Int) := by rw [qw (by omega) (by omega)]; simp
      rw [if_pos (by omega), jz (by omega), qs, show rd often (D.length : Int) = x from by rw [← h1]; exact xh _ _ _ rfl, List.any_cons]
      cases hb : jr x with
      | true => rw [show (decide (x < 0) || decide (x > 1099511627776)) = true from hb, cond_true]; simp
      | false =>
        rw [show (decide (x < 0) || decide (x > 1099511627776)) = false from hb, cond_false, qt]
        by_cases h0 : x > 0
        · rw [if_pos h0, qI, qI, hn, show ql ((n : Int) + 1) = ((n + 1 : Nat) : Int) from by rw [qw (by omega) (by omega)]; rfl, ih (D ++ [x]) T (n + 1) (by rw [← h1]; simp) (by omega) (by simp; exact h3)]
          simp only [Bool.false_or, xy, List.length_append, List.length_cons, List.length_nil, Nat.zero_add]
          rw [if_pos (show 0 < x from h0), List.length_cons, show n + 1 + (xy T (D.length + 1)).length = n + ((xy T (D.length + 1)).length + 1) from by omega]
        · rw [if_neg h0, qI, hn, ih (D ++ [x]) T n (by rw [← h1]; simp) (by omega) (by simp; omega)]
          simp only [Bool.false_or, xy, List.length_append, List.length_cons, List.length_nil, Nat.zero_add]
          rw [if_neg (show ¬ 0 < x from h0)]
theorem vQ (K : Nat) (often : List Int) (most : Int) (hK : 320 < K) : qC.m K often most = .ok (decide (Q6 often most)) := by
  unfold qC.m
  by_cases h1 : (((decide (most < (1 : Int))) || (decide (most > (15 : Int)))) || (decide ((often.length : Int) > (320 : Int)))) = true
  · rw [h1, cond_true, show decide (Q6 often most) = false from by
      simp only [Bool.or_eq_true, decide_eq_true_eq] at h1
      rw [decide_eq_false_iff_not]; intro h; have := h.1; have := h.2.1; have := h.2.2.1; omega]
  · have h1' := h1
    simp only [Bool.or_eq_true, decide_eq_true_eq, not_or] at h1
    rw [Bool.not_eq_true] at h1'
    have := u1 K often most (by omega) K [] often 0 rfl (by omega) (Nat.le_refl _)
    rw [show ((0 : Nat) : Int) = 0 from rfl, show (([] : List Int).length : Int) = 0 from rfl] at this
    rw [h1', cond_false, this]
    by_cases hb : often.any jr = true
    · rw [if_pos hb, show decide (Q6 often most) = false from by
        rw [decide_eq_false_iff_not]; intro h
        rw [(yI often).2 h.2.2.2.1] at hb; cases hb]
    · rw [if_neg hb]
      unfold qC.j2
      rw [xX (by omega) (by omega), yh (by omega), qs, Zx (by omega) (by omega), qI]
      rw [Bool.not_eq_true, yI] at hb
      congr 1
      rw [decide_eq_decide]
      simp only [Nat.zero_add, List.length_nil]
      constructor
      · intro h; exact ⟨by omega, by omega, by omega, hb, by omega⟩
      · intro h; have := h.2.2.2.2; omega
end Go.Pu

set_option maxRecDepth 100000
namespace Go.Pu
open Go Go.Sl Go.Mo
theorem u9.vals {L : Nat} (hL : L ≤ 8) {D b : List Int} (h : u9 L D b) (hD : ∀ n ∈ D, 0 ≤ n ∧ n ≤ 1099511627776) (hDl : D.length ≤ 30) : ∀ k, k ≤ 2 ^ L → 0 ≤ b.getD k 0 ∧ (b.getD k 0 < xk → b.getD k 0 ≤ 300000000000000) := by
  intro k hk
  rcases h.att k hk with h1 | ⟨ls, a1, _, a3⟩
  · rw [h1]; exact ⟨by decide, fun h => absurd h (by decide)⟩
  · have := xU (L := L) (ls := ls) hL D 0 hD (fun j hj h0 => by rw [Nat.zero_add]; exact (a1 j hj h0).2)
    rw [a3]
    exact ⟨this.1, fun _ => by omega⟩
theorem Qr (K : Nat) (hK : 1000 < K) (g : List Int → Int → qN Int) (often : List Int) (L : Nat) (hL1 : 1 ≤ L) (hL : L ≤ 8) (b : List Int) (i : Nat) (hi : i < 1000) (x : Int) (hx : rd often (i : Int) = x) (hx0 : 0 ≤ x) (hx1 : x ≤ 1099511627776) (hb : b.length = 2 ^ L + 1) (hbv : ∀ k, k ≤ 2 ^ L → 0 ≤ b.getD k 0 ∧ (b.getD k 0 < xk → b.getD k 0 ≤ 300000000000000)) :
    ∀ (j f k : Nat) (nx : List Int), k + j = 2 ^ L + 1 → j < f → nx.length = 2 ^ L + 1 → (∀ c, c < k → jt L b x c (nx.getD c 0)) →
      ∃ b', b'.length = 2 ^ L + 1 ∧ (∀ c, c ≤ 2 ^ L → jt L b x c (b'.getD c 0)) ∧ qe.l4 K g often (L : Int) ((2 ^ L : Nat) : Int) b (i : Int) f nx (k : Int) = g b' ((i + 1 : Nat) : Int) := by
  intro j
  have hp8 : 2 ^ L ≤ 2 ^ 8 := Nat.pow_le_pow_right (by decide) hL
  induction j with
  | zero =>
    intro f k nx hk hf hl hI
    obtain ⟨f, rfl⟩ : ∃ z, f = z + 1 := ⟨f - 1, by omega⟩
    have e : ql ((i : Int) + 1) = ((i + 1 : Nat) : Int) := by rw [qw (by omega) (by omega)]; omega
    rw [qe.l4, qt, if_neg (by omega), qI, e]
    exact ⟨nx, hl, fun c hc => hI c (by omega), rfl⟩
  | succ j ih =>
    intro f k nx hk hf hl hI
    obtain ⟨f, rfl⟩ : ∃ z, f = z + 1 := ⟨f - 1, by omega⟩
    rw [qe.l4, qt, if_pos (by omega), zH (by omega), qs, Int.toNat_natCast, qI]
    have hg : (nx.set k xk).getD k 0 = xk := by rw [xF, if_pos ⟨rfl, by omega⟩]
    obtain ⟨v, v1, v2⟩ := uY K (qe.l4 K g often (L : Int) ((2 ^ L : Nat) : Int) b (i : Int) f) often L hL b i x hx hx0 hx1 hb hbv k (by omega) L K 1 (nx.set k xk) (by omega) (by omega) (Nat.le_refl _) (by rw [List.length_set]; exact hl) ⟨fun r r1 r2 => by omega, .inl hg⟩
    rw [show ((1 : Nat) : Int) = 1 from rfl] at v2
    refine (show ∃ b', _ from ?_)
    obtain ⟨b', c1, c2, c3⟩ := ih f (k + 1) (nx.set k v) (by omega) (by omega) (by rw [List.length_set]; exact hl) (fun c hc => by
      by_cases hck : c = k
      · subst hck; rw [xF, if_pos ⟨rfl, by omega⟩]; exact v1
      · rw [xF, if_neg (fun h => hck h.1.symm)]; exact hI c (by omega))
    refine ⟨b', c1, c2, ?_⟩
    refine Eq.trans v2 ?_
    rw [List.set_set, c3]
theorem uZ (K : Nat) (hK : 1000 < K) (often : List Int) (L : Nat) (hL1 : 1 ≤ L) (hL : L ≤ 8) (hb : ∀ n ∈ often, 0 ≤ n ∧ n ≤ 1099511627776) (hl : often.length ≤ 30) : ∀ (f : Nat) (D T : List Int) (b : List Int), D ++ T = often → T.length < f → u9 L D b →
    ∃ b', u9 L often b' ∧ qe.l3 K often (L : Int) ((2 ^ L : Nat) : Int) f b (D.length : Int) = qe.j7 K ((2 ^ L : Nat) : Int) b' := by
  intro f
  have hp8 : 2 ^ L ≤ 2 ^ 8 := Nat.pow_le_pow_right (by decide) hL
  have hpp := Nat.two_pow_pos L
  induction f with
  | zero => intro D T b _ h; omega
  | succ f ih =>
    intro D T b h1 hf B
    have hlen : D.length + T.length = often.length := by rw [← h1]; simp
    rw [qe.l3, qt]
    cases T with
    | nil =>
      rw [if_neg (by simp only [List.length_nil] at hlen; omega)]
      rw [List.append_nil] at h1
      exact ⟨b, h1 ▸ B, rfl⟩
    | cons x T =>
      simp only [List.length_cons] at hlen hf
      have e1 : rd often (D.length : Int) = x := by rw [← h1, xh _ _ _ rfl]
      have hDl : (D ++ [x]).length = D.length + 1 := by simp
      have e3 : ql ((D.length : Int) + 1) = ((D ++ [x]).length : Int) := by rw [qw (by omega) (by omega)]; simp
      have hx := hb x (by rw [← h1]; simp)
      have hD : ∀ n ∈ D, 0 ≤ n ∧ n ≤ 1099511627776 := fun n hn => hb n (by rw [← h1]; exact List.mem_append_left _ hn)
      have h01 : D ++ [x] ++ T = often := by rw [← h1]; simp
      rw [if_pos (by omega), zH (by omega), qs, e1, yN]
      by_cases h0 : x = 0
      · rw [if_pos h0, qI, e3]
        refine ih (D ++ [x]) T b h01 (by omega) ?_
        rw [h0]; exact B.zero
      · have e4 : ql (((2 ^ L : Nat) : Int) + 1) = ((2 ^ L + 1 : Nat) : Int) := by rw [qw (by omega) (by omega)]; omega
        have er : (decide ((0 : Int) ≤ ((2 ^ L + 1 : Nat) : Int)) && room (2 ^ L + 1) 8) = true := by rw [Bool.and_eq_true]; exact ⟨yh (by omega), z3 (by omega)⟩
        rw [if_neg h0, e4, Int.toNat_natCast, er, qs, qI]
        obtain ⟨b', c1, c2, c3⟩ := Qr K hK (qe.l3 K often (L : Int) ((2 ^ L : Nat) : Int) f) often L hL1 hL b D.length (by omega) x e1 hx.1 hx.2 B.len (B.vals hL hD (by omega)) (2 ^ L + 1) K 0 (List.replicate (2 ^ L + 1) 0) (by omega) (by omega) (by simp) (fun c hc => by omega)
        rw [show ((0 : Nat) : Int) = 0 from rfl, ← hDl] at c3
        obtain ⟨b2, d1, d2⟩ := ih (D ++ [x]) T b' h01 (by omega) (u9.add hL (by omega) hD (by omega) B c1 c2)
        exact ⟨b2, d1, c3.trans d2⟩
theorem ui (K : Nat) (often : List Int) (L : Nat) (hL : L ≤ 8) : ∀ (j f k : Nat) (b : List Int), k + j = 2 ^ L + 1 → j < f → 1 ≤ k → b.length = 2 ^ L + 1 → b.getD 0 0 = 0 → (∀ c, 1 ≤ c → c < k → b.getD c 0 = xk) →
    ∃ b', u9 L [] b' ∧ qe.l1 K often (L : Int) ((2 ^ L : Nat) : Int) f b (k : Int) = qe.j2 K often (L : Int) ((2 ^ L : Nat) : Int) b' := by
  intro j
  have hp8 : 2 ^ L ≤ 2 ^ 8 := Nat.pow_le_pow_right (by decide) hL
  induction j with
  | zero =>
    intro f k b hk hf h1 hl h0 hI
    obtain ⟨f, rfl⟩ : ∃ z, f = z + 1 := ⟨f - 1, by omega⟩
    rw [qe.l1, qt, if_neg (by omega)]
    refine ⟨b, ⟨hl, fun c hc ls _ h2 => ?_, fun c hc => ?_⟩, rfl⟩
    · have : c = 0 := by rw [← h2]; rfl
      subst this; rw [h0]; exact Int.le_refl _
    · by_cases hc0 : c = 0
      · subst hc0; exact .inr ⟨fun _ => 0, fun j hj => by simp at hj, rfl, h0⟩
      · exact .inl (hI c (by omega) (by omega))
  | succ j ih =>
    intro f k b hk hf h1 hl h0 hI
    obtain ⟨f, rfl⟩ : ∃ z, f = z + 1 := ⟨f - 1, by omega⟩
    have e : ql ((k : Int) + 1) = ((k + 1 : Nat) : Int) := by rw [qw (by omega) (by omega)]; omega
    rw [qe.l1, qt, if_pos (by omega), zH (by omega), qs, Int.toNat_natCast, qI, qI, e]
    refine ih f (k + 1) _ (by omega) (by omega) (by omega) (by rw [List.length_set]; exact hl) (by rw [xF, if_neg (by omega)]; exact h0) (fun c c1 c2 => ?_)
    rw [xF]
    by_cases hck : k = c
    · rw [if_pos ⟨hck, by omega⟩]; rfl
    · rw [if_neg (fun h => hck h.1)]; exact hI c c1 (by omega)
theorem Qp (K : Nat) (L : Nat) (hL : L ≤ 8) (b : List Int) (hb : b.length = 2 ^ L + 1) : ∀ (j f k c : Nat), k + j = 2 ^ L + 1 → j < f → 1 ≤ k → c < k → (∀ d, d < k → b.getD c 0 ≤ b.getD d 0) →
    ∃ c', c' ≤ 2 ^ L ∧ (∀ d, d ≤ 2 ^ L → b.getD c' 0 ≤ b.getD d 0) ∧ qe.l8 K ((2 ^ L : Nat) : Int) b f (b.getD c 0) (k : Int) = .ok (b.getD c' 0) := by
  intro j
  have hp8 : 2 ^ L ≤ 2 ^ 8 := Nat.pow_le_pow_right (by decide) hL
  induction j with
  | zero =>
    intro f k c hk hf h1 hc hI
    obtain ⟨f, rfl⟩ : ∃ z, f = z + 1 := ⟨f - 1, by omega⟩
    rw [qe.l8, qt, if_neg (by omega)]
    exact ⟨c, by omega, fun d hd => hI d (by omega), rfl⟩
  | succ j ih =>
    intro f k c hk hf h1 hc hI
    obtain ⟨f, rfl⟩ : ∃ z, f = z + 1 := ⟨f - 1, by omega⟩
    have e : ql ((k : Int) + 1) = ((k + 1 : Nat) : Int) := by rw [qw (by omega) (by omega)]; omega
    rw [qe.l8, qt, if_pos (by omega), zH (by omega), qs, qI, qI, e, ut]
    by_cases hlt : b.getD k 0 < b.getD c 0
    · rw [if_pos hlt]
      exact ih f (k + 1) k (by omega) (by omega) (by omega) (by omega) (fun d hd => by
        by_cases hdk : d = k
        · subst hdk; exact Int.le_refl _
        · have := hI d (by omega); omega)
    · rw [if_neg hlt]
      exact ih f (k + 1) c (by omega) (by omega) (by omega) (by omega) (fun d hd => by
        by_cases hdk : d = k
        · subst hdk; omega
        · exact hI d (by omega))
theorem Qy (K : Nat) (hK : 1000 < K) (often l : List Int) (L : Nat) (hL1 : 1 ≤ L) (hL : L ≤ 8) (hb : ∀ n ∈ often, 0 ≤ n ∧ n ≤ 1099511627776) (hl : often.length ≤ 30) (h : jq often (L : Int) l) (hF : Zj often L l) : qe.m K often (L : Int) = .ok (zk (j0 l) often 0) := by
  have hp8 : 2 ^ L ≤ 2 ^ 8 := Nat.pow_le_pow_right (by decide) hL
  have hpp := Nat.two_pow_pos L
  unfold qe.m
  have e1 : wr .u64 (L : Int) = (L : Int) := xX (by omega) (by omega)
  have e4 : ql (((2 ^ L : Nat) : Int) + 1) = ((2 ^ L + 1 : Nat) : Int) := by rw [qw (by omega) (by omega)]; omega
  have er : (decide ((0 : Int) ≤ ((2 ^ L + 1 : Nat) : Int)) && room (2 ^ L + 1) 8) = true := by rw [Bool.and_eq_true]; exact ⟨yh (by omega), z3 (by omega)⟩
  rw [e1, yh (by omega), qs, vK hL, qI, e4, Int.toNat_natCast, er, qs, qI]
  obtain ⟨b0, B0, hB0⟩ := ui K often L hL (2 ^ L) K 1 (List.replicate (2 ^ L + 1) 0) (by omega) (by omega) (Nat.le_refl _) (by simp) (by simp [List.getD]) (fun c c1 c2 => by omega)
  rw [show ((1 : Nat) : Int) = 1 from rfl] at hB0
  rw [hB0]
  unfold qe.j2
  obtain ⟨b, B, hB⟩ := uZ K hK often L hL1 hL hb hl K [] often b0 rfl (by omega) B0
  rw [show (([] : List Int).length : Int) = 0 from rfl] at hB
  rw [hB]
  unfold qe.j7
  have hbl := B.len
  have i0 : inb (0 : Int) b.length = true := zH (i := 0) (by omega)
  have r0 : rd b (0 : Int) = b.getD 0 0 := ut (i := 0)
  rw [i0, qs, r0, qI]
  have first : ∀ d, d < 1 → b.getD 0 0 ≤ b.getD d 0 := by
    intro d hd
    have : d = 0 := by omega
    subst this
    exact Int.le_refl _
  obtain ⟨c, c1, c2, c3⟩ := Qp K L hL b hbl (2 ^ L) K 1 0 (by omega) (by omega) (Nat.le_refl _) (by omega) first
  rw [show ((1 : Nat) : Int) = 1 from rfl] at c3
  rw [c3]
  congr 1
  -- the program's lengths are among those that may be
  have hll := h.len
  have hrz : ∀ j : Nat, j < often.length → 0 ≤ l.getD j 0 ∧ l.getD j 0 ≤ (L : Int) ∧ (l.getD j 0 = 0 ↔ often.getD j 0 = 0) := by
    intro j hj
    have a := h.rng j hj; have z := h.zero j hj
    rw [ut] at a z
    rw [ut] at z
    exact ⟨a.1, a.2, z⟩
  have hv : Zi L (j0 l) often := by
    intro j hj h0
    have := hrz j hj
    unfold j0
    have hne : l.getD j 0 ≠ 0 := fun he => by have := this.2.2.1 he; omega
    omega
  have hkr : jA L (j0 l) often 0 ≤ 2 ^ L := by
    have hk := uG (L := L) (l := l) often 0 (fun j hj => by rw [Nat.zero_add]; exact hrz j hj) (fun n hn => (hb n hn).1) (by omega) (by omega)
    rw [List.drop_zero] at hk
    have hc := h.chk
    unfold yE at hc
    split at hc
    · split at hc
      · rename_i hor
        have hpL : 2 ^ L * 2 ^ (15 - L) = 2 ^ 15 := by rw [← Nat.pow_add]; congr 1; omega
        have hpos := Nat.two_pow_pos (15 - L)
        have hsum : (l.map wt).sum ≤ 2 ^ 15 := by
          have nzs : ∀ l : List Int, (∀ x ∈ l, 0 ≤ x) → (l.map wt).sum = ((nz l).map wt).sum := by
            intro l
            induction l with
            | nil => intro _; rfl
            | cons x l ih =>
              intro hx
              have := ih fun y hy => hx y (List.mem_cons_of_mem _ hy)
              have hx0 := hx x (List.mem_cons_self ..)
              unfold nz at this ⊢
              by_cases h0 : 0 < x
              · rw [List.filter_cons_of_pos (by simpa using h0), List.map_cons, List.sum_cons, List.map_cons, List.sum_cons, this]
              · rw [List.filter_cons_of_neg (by simpa using h0), List.map_cons, List.sum_cons, this]
                have : wt x = 0 := by unfold wt; rw [if_neg (by omega)]
                omega
          rcases hor with h1 | h1 | h1
          · rw [nzs l (fun x hx => by
              obtain ⟨j, hj, rfl⟩ := z4 hx
              have := hrz j (by omega); rw [ut]; exact this.1), h1]; simp
          · rw [nzs l (fun x hx => by
              obtain ⟨j, hj, rfl⟩ := z4 hx
              have := hrz j (by omega); rw [ut]; exact this.1), h1]; simp [wt]
          · rw [ue] at h1; omega
        refine Nat.le_of_mul_le_mul_right (c := 2 ^ (15 - L)) ?_ hpos
        rw [hk, hpL]; exact hsum
      · cases hc
    · cases hc
  have hlow := B.low _ hkr (j0 l) hv rfl
  have hcb := xU (L := L) (ls := j0 l) hL often 0 hb (fun j hj h0 => by rw [Nat.zero_add]; exact (hv j hj h0).2)
  have hmin := c2 _ hkr
  rcases B.att c c1 with h1 | ⟨ls, a1, a2, a3⟩
  · rw [h1] at hmin; unfold xk at hmin; omega
  · have := Qq rfl hL1 h hF (fun n hn => (hb n hn).1) ls a1 (by omega)
    omega
theorem Zp (K : Nat) (often l : List Int) (L : Nat) (hL : L ≤ 8) (hb : ∀ n ∈ often, 0 ≤ n ∧ n ≤ 1099511627776) (hl : often.length ≤ 30) (h : jq often (L : Int) l) : ∀ (f : Nat) (D T : List Int), D ++ T = often → T.length < f →
    qg.l4 K often (L : Int) l f (zk (j0 l) D 0) (D.length : Int) = qg.j6 K often (L : Int) (zk (j0 l) often 0) := by
  intro f
  induction f with
  | zero => intro D T _ h; omega
  | succ f ih =>
    intro D T h1 hf
    have hlen : D.length + T.length = often.length := by rw [← h1]; simp
    have hll := h.len
    rw [qg.l4, qt]
    cases T with
    | nil =>
      rw [if_neg (by simp only [List.length_nil] at hlen; omega)]
      rw [List.append_nil] at h1
      rw [h1]
    | cons x T =>
      simp only [List.length_cons] at hlen hf
      have e1 : rd often (D.length : Int) = x := by rw [← h1, xh _ _ _ rfl]
      have e3 : ql ((D.length : Int) + 1) = ((D ++ [x]).length : Int) := by rw [qw (by omega) (by omega)]; simp
      have hr := h.rng D.length (by omega)
      have hz := h.zero D.length (by omega)
      rw [e1] at hz
      rw [if_pos (by omega), zH (by omega), qs, qt, if_neg (by omega), zH (by omega), qs, e1]
      have eb : (!((rd l (D.length : Int) == 0) == (x == 0))) = false := by
        by_cases h0 : x = 0
        · have := hz.2 h0; rw [this, h0]; rfl
        · have : rd l (D.length : Int) ≠ 0 := fun h => h0 (hz.1 h)
          rw [beq_eq_false_iff_ne.2 this, beq_eq_false_iff_ne.2 h0]; rfl
      unfold qg.j5
      rw [eb, cond_false, zH (by omega), qs, zH (by omega), qs, e1, qI, qI, e3]
      have hx := hb x (by rw [← h1]; simp)
      have hD : ∀ n ∈ D, 0 ≤ n ∧ n ≤ 1099511627776 := fun n hn => hb n (by rw [← h1]; exact List.mem_append_left _ hn)
      have hcb := xU (L := L) (ls := j0 l) hL D 0 hD (fun j hj h0 => by
        rw [Nat.zero_add]
        have := h.rng j (by omega)
        rw [ut] at this
        unfold j0; omega)
      have hm : 0 ≤ rd l (D.length : Int) * x ∧ rd l (D.length : Int) * x ≤ 8 * 1099511627776 := ⟨Int.mul_nonneg hr.1 hx.1, Int.mul_le_mul (by omega) hx.2 hx.1 (by decide)⟩
      rw [qw (x := rd l (D.length : Int) * x) (by omega) (by omega), qw (by omega) (by omega)]
      have ec : zk (j0 l) D 0 + rd l (D.length : Int) * x = zk (j0 l) (D ++ [x]) 0 := by
        rw [xY, Nat.zero_add, Int.mul_comm x]
        congr 2
        unfold j0
        rw [ut] at hr ⊢
        omega
      rw [ec]
      exact ih (D ++ [x]) T (by rw [← h1]; simp) (by omega)
theorem ur (K : Nat) (often : List Int) (most : Int) (hK : 6000 ≤ K) (hK2 : (1099511627776 : Nat) > K) : qg.m K often most = .ok true := by
  unfold qg.m
  rw [uj K (by omega), QU, qt, qt]
  by_cases h1 : (often.length : Int) > 30
  · rw [if_pos h1]; rfl
  · rw [if_neg h1]
    by_cases h2 : most > 8
    · rw [if_pos h2]; rfl
    · rw [if_neg h2, z3 (by simp only [List.length_nil]; omega), qs, qI, List.nil_append]
      by_cases hO : Q6 often most
      · obtain ⟨l, hl1, hl2, hl3⟩ := Qs K often most hK hK2 hO
        obtain ⟨m1, m2, hN, hnn, hs⟩ := hO
        obtain ⟨L, rfl⟩ : ∃ L : Nat, most = (L : Int) := ⟨most.toNat, by omega⟩
        rw [Int.toNat_natCast] at hl3
        have hO : Q6 often (L : Int) := ⟨m1, m2, hN, hnn, hs⟩
        rw [hl1, qN.bind_ok]
        dsimp only
        rw [vR K often (by omega) (by omega), qN.bind_ok, Bool.not_true, cond_false, vQ K often _ (by omega), decide_eq_true hO, qN.bind_ok]
        unfold qg.j1
        have hll := hl2.len
        have e1 : (!(((0 : Int) == 0) == true)) = false := rfl
        have e2 : ((0 : Int) != 0) = false := rfl
        have e3 : ((l.length : Int) != (often.length : Int)) = false := by rw [hll]; exact bne_self_eq_false' ..
        rw [e1, cond_false, e2, cond_false, e3, cond_false, Qx K l (by omega), hl2.chk, qN.bind_ok, e2]
        unfold qg.j3
        rw [cond_false]
        have := Zp K often l L (by omega) hnn (by omega) hl2 K [] often rfl (by omega)
        rw [show zk (j0 l) [] 0 = 0 from rfl, show (([] : List Int).length : Int) = 0 from rfl] at this
        rw [this]
        unfold qg.j6
        rw [Qy K (by omega) often l L (by omega) (by omega) hnn (by omega) hl2 hl3, qN.bind_ok, beq_self_eq_true, uj K (by omega)]
        rfl
      · rw [Q3 K often most (by omega) hO, qN.bind_ok]
        dsimp only
        rw [vR K often (by omega) (by omega), qN.bind_ok, Bool.not_true, cond_false, vQ K often most (by omega), decide_eq_false hO, qN.bind_ok]
        unfold qg.j1
        rw [uj K (by omega)]
        rfl
theorem jE (often : List Int) (most : Int) (_ : ∀ n ∈ often, (Lit.int .i64 n).wf = true) (_ : often.length * 8 ≤ 140737488351232) (_ : (Lit.int .i64 most).wf = true) : qg.m 6000 often most = .ok true := ur 6000 often most (by omega) (by omega)
end Go.Pu

