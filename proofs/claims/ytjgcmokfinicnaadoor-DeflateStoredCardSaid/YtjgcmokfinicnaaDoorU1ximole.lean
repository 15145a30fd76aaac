/- Plain facts on the models: what they compute, and what holds of them; conditions: what each theorem states. -/
import Derived.Test.YtjgcmokfinicnaaDoorMbmcgp
set_option linter.unusedVariables false
set_option linter.unusedSimpArgs false
/- Plain facts on wrapped numbers, and bits of a text. -/
namespace Go.Pu
open Go Go.Sl

theorem w64_id {x : Int} (h0 : -9223372036854775808 ≤ x) (h1 : x < 9223372036854775808) : w64 x = x := by
  show (if (true && decide (x % 18446744073709551616 ≥ 9223372036854775808)) = true then x % 18446744073709551616 - 18446744073709551616 else x % 18446744073709551616) = x
  split <;> rename_i h <;> simp at h <;> omega
theorem wru8 (x : Int) : wr .u8 x = x % 256 := by
  simp [wr, IntKind.wrap, IntKind.bits, IntKind.signed]
theorem wru8_id {x : Int} (h0 : 0 ≤ x) (h1 : x < 256) : wr .u8 x = x := by rw [wru8]; omega
theorem iquo_nat {a b : Nat} (ha : a < 9223372036854775808) (hb : b < 9223372036854775808) : iquo .i64 (a : Int) (b : Int) = ((a / b : Nat) : Int) := by
  unfold iquo
  have h1 : (a : Int).tdiv (b : Int) = ((a / b : Nat) : Int) := by rw [Int.ofNat_tdiv]
  rw [h1]
  have h2 : a / b ≤ a := Nat.div_le_self _ _
  generalize a / b = q at h2 ⊢
  exact w64_id (by omega) (by omega)
theorem irem_nat {a b : Nat} : irem (a : Int) (b : Int) = ((a % b : Nat) : Int) := by
  unfold irem
  rw [Int.ofNat_tmod]
theorem ishr_nat {k : IntKind} {a n : Nat} (hn : n ≤ k.bits) : ishr k (a : Int) (n : Int) = ((a / 2 ^ n : Nat) : Int) := by
  unfold ishr
  rw [Int.toNat_natCast, Nat.min_eq_left hn, Int.fdiv_eq_ediv_of_nonneg _ (Int.pow_nonneg (by decide))]
  simp
end Go.Pu

/- Bits of a text: the document's reader. -/
namespace Go.Pu
open Go Go.Sl Go.Mo

/-- Bit number i of a text. -/
def bitB (t : List UInt8) (i : Nat) : Bool := (t.getD (i / 8) 0).toNat.testBit (i % 8)
/-- n bits from bit p on, the lowest first. -/
def num (t : List UInt8) (p : Nat) : Nat → Nat
  | 0 => 0
  | n + 1 => num t p n + (bitB t (p + n)).toNat * 2 ^ n

/-- The bits, or why not. -/
def sBits (t : List UInt8) (p n : Nat) : Except Int (Nat × Nat) := if p + n ≤ 8 * t.length then .ok (num t p n, p + n) else .error 2

end Go.Pu

/- Bits of a text: the program's reader. -/
namespace Go.Pu
open Go Go.Sl Go.Mo

end Go.Pu

/- Bytes of a text: both readers. -/
namespace Go.Pu
open Go Go.Sl Go.Mo

def sBytes (t : List UInt8) (p n : Nat) : Except Int (List UInt8 × Nat) :=
  if (p + 7) / 8 + n ≤ t.length then .ok ((t.drop ((p + 7) / 8)).take n, 8 * ((p + 7) / 8 + n)) else .error 2

end Go.Pu

/- Lengths of codes: counted and checked. -/
namespace Go.Pu
open Go Go.Sl Go.Mo

def inR (x : Int) : Prop := 0 ≤ x ∧ x ≤ 15
instance (x : Int) : Decidable (inR x) := inferInstanceAs (Decidable (_ ∧ _))
def okL (l : List Int) : Prop := l.length ≤ 320 ∧ ∀ x ∈ l, inR x
instance (l : List Int) : Decidable (okL l) := inferInstanceAs (Decidable (_ ∧ _))
/-- How many have each length. -/
def cs (l : List Int) : List Int := (List.range 16).map fun (j : Nat) => ((l.count (j : Int) : Nat) : Int)
def cs0 (l : List Int) : List Int := (List.range 16).map fun (j : Nat) => if j = 0 then 0 else ((l.count (j : Int) : Nat) : Int)
end Go.Pu

/- Lengths of codes: checked, by the program and by the document. -/
namespace Go.Pu
open Go Go.Sl Go.Mo

def c0 (l : List Int) (n : Nat) : Nat := if n = 0 then 0 else l.count (n : Int)
/-- The sum of the parts that the codes of the lengths below i take, of 2^15. -/
def ks (l : List Int) : Nat → Nat
  | 0 => 0
  | i + 1 => ks l i + c0 l i * 2 ^ (15 - i)
def nz (l : List Int) : List Int := l.filter fun x => decide (0 < x)
def sCheck (l : List Int) : Int := if okL l then (if nz l = [] ∨ nz l = [1] ∨ ks l 16 = 32768 then 0 else 3) else 1

end Go.Pu

/- Lengths of codes, checked by the document; its codes. -/
namespace Go.Pu
open Go Go.Sl Go.Mo

end Go.Pu

/- The codes, as the document lays them. -/
namespace Go.Pu
open Go Go.Sl Go.Mo

/-- The first code of each length. -/
def fst (l : List Int) : Nat → Nat
  | 0 => 0
  | n + 1 => 2 * (fst l n + c0 l n)
def cod (l : List Int) (i : Nat) : Nat := if 0 < l.getD i 0 then fst l (l.getD i 0).toNat + (l.take i).count (l.getD i 0) else 0
def codesL (l : List Int) : List Int := (List.range l.length).map fun (i : Nat) => (cod l i : Int)
def outF (l : List Int) (n i : Nat) : List Int := (List.range l.length).map fun (j : Nat) =>
  if (0 < l.getD j 0 ∧ l.getD j 0 < (n : Int)) ∨ (l.getD j 0 = (n : Int) ∧ j < i) then (cod l j : Int) else 0
end Go.Pu

/- The program's table. -/
namespace Go.Pu
open Go Go.Sl Go.Mo

/-- The symbols of one length, below number i. -/
def idx (l : List Int) (n i : Nat) : List Int := ((List.range i).filter fun j => decide (l.getD j 0 = (n : Int))).map fun (j : Nat) => (j : Int)
/-- The symbols whose length is below n, ranged by lengths. -/
def symsU (l : List Int) : Nat → List Int
  | 0 => []
  | n + 1 => if n = 0 then [] else symsU l n ++ idx l n l.length
end Go.Pu

/- The symbols of a code: where each stands. -/
namespace Go.Pu
open Go Go.Sl Go.Mo

end Go.Pu

/- When a code goes on. -/
namespace Go.Pu
open Go Go.Sl Go.Mo

end Go.Pu

/- The next symbol: the program's table. -/
namespace Go.Pu
open Go Go.Sl Go.Mo

def nextGo (l : List Int) (t : List UInt8) : Nat → Nat → Nat → Nat → Except Int (Nat × Nat)
  | 0, _, _, _ => .error 3
  | k + 1, n, v, p =>
    if (symsU l (n + 1)).length < (symsU l 16).length then
      if p + 1 ≤ 8 * t.length then
        if 2 * v + (bitB t p).toNat < fst l (n + 1) + c0 l (n + 1) then .ok (((symsU l 16).getD ((symsU l (n + 1)).length + (2 * v + (bitB t p).toNat) - fst l (n + 1)) 0).toNat, p + 1)
        else nextGo l t k (n + 1) (2 * v + (bitB t p).toNat) (p + 1)
      else .error 2
    else .error 3
def sNext (l : List Int) (t : List UInt8) (p : Nat) : Except Int (Nat × Nat) := nextGo l t 16 0 0 p

end Go.Pu

/- The next symbol, as the document reads it. -/
namespace Go.Pu
open Go Go.Sl Go.Mo

/-- Number i is the symbol whose code v is, of n bits. -/
def hits (l : List Int) (n v i : Nat) : Prop := l.getD i 0 = (n : Int) ∧ 0 < n ∧ cod l i = v
/-- The code of number i begins with v, and is longer. -/
def leads (l : List Int) (n v i : Nat) : Prop := (n : Int) < l.getD i 0 ∧ cod l i / 2 ^ ((l.getD i 0).toNat - n) = v
instance (l : List Int) (n v i : Nat) : Decidable (hits l n v i) := inferInstanceAs (Decidable (_ ∧ _))
instance (l : List Int) (n v i : Nat) : Decidable (leads l n v i) := inferInstanceAs (Decidable (_ ∧ _))
end Go.Pu

/- The next symbol, as the document reads it: the outer rounds. -/
namespace Go.Pu
open Go Go.Sl Go.Mo

/-- The document's reader at the head of round n: a symbol of n bits, or on. -/
def headR (l : List Int) (t : List UInt8) (n v p : Nat) : Except Int (Nat × Nat) :=
  if 0 < n ∧ v < fst l n + c0 l n then .ok (((symsU l 16).getD ((symsU l n).length + v - fst l n) 0).toNat, p) else nextGo l t (16 - n) n v p

end Go.Pu

/- What inflated data say: the rule, and the program's small readers. -/
namespace Go.Pu
open Go Go.Sl Go.Mo

/-- What a reader that panics answers. -/
def asPan {α β : Type} (f : β → α) : Except Int β → Res α
  | .ok b => .ok (f b)
  | .error e => if e = -1 then .fail else .pan (.iface ty_inflate_failed (.agg ⟨[.int .i64 e]⟩))
def two (x : Nat × Nat) : Int × Int := ((x.1 : Int), (x.2 : Int))

end Go.Pu

/- Stored blocks. -/
namespace Go.Pu
open Go Go.Sl Go.Mo

def byteN (s : List UInt8) (i : Nat) : Nat := (s.getD i 0).toNat
def sStored (t : List UInt8) (L p : Nat) (out : List Int) : Except Int (Nat × List Int) :=
  match sBytes t p 4 with
  | .error e => .error e
  | .ok (h, q) =>
    if byteN h 2 + 256 * byteN h 3 = 65535 - (byteN h 0 + 256 * byteN h 1) then
      match sBytes t q (byteN h 0 + 256 * byteN h 1) with
      | .error e => .error e
      | .ok (s, q') => if out.length + (byteN h 0 + 256 * byteN h 1) ≤ L then .ok (q', out ++ s.map ofb) else .error 11
    else .error 3
end Go.Pu
namespace Go.Pu
open Go Go.Sl Go.Mo
end Go.Pu

/- Stored blocks, as the document reads them. -/
namespace Go.Pu
open Go Go.Sl Go.Mo

/-- A reader of the document: what it answers, or the error, wherever it stands then. -/
def docIs (m : Res (Int × Int × List Int)) (s : Except Int (Nat × List Int)) : Prop :=
  match s with
  | .ok (q, out) => m = .ok (0, (q : Int), out)
  | .error e => if e = -1 then m = .fail else ∃ p out, m = .ok (e, p, out) ∧ e ≠ 0

end Go.Pu

/- Common rules for plain proofs; the rule of a block's symbols; the program's reader of them. -/
namespace Go.Pu
open Go Go.Sl Go.Mo

theorem subok_of {lo hi : Int} {n : Nat} (h0 : 0 ≤ lo) (h1 : lo ≤ hi) (h2 : hi ≤ (n : Int)) : subok lo hi n = true := subok_iff.2 ⟨h0, h1, h2⟩
theorem room_of {n k : Nat} (h : n * k ≤ 140737488355328) : room n k = true := decide_eq_true h
section
variable {α : Type}
theorem cond_dec {p : Prop} [Decidable p] (a b : α) : cond (decide p) a b = if p then a else b := by
  by_cases h : p <;> simp [h]
theorem cond_beq {x y : Int} (a b : α) : cond (x == y) a b = if x = y then a else b := by
  by_cases h : x = y
  · rw [if_pos h, beq_iff_eq.2 h]; rfl
  · rw [if_neg h, beq_eq_false_iff_ne.2 h]; rfl
end

/-! ## The rule -/
def lenT : List (Nat × Nat) := tab_inflate_lengths.map fun r => (r.from_.toNat, r.bits_.toNat)
def dstT : List (Nat × Nat) := tab_inflate_distances.map fun r => (r.from_.toNat, r.bits_.toNat)
def lenOf (x : Nat) : Nat × Nat := lenT.getD (x - 257) (0, 0)
def dstOf (x : Nat) : Nat × Nat := dstT.getD x (0, 0)
def copyN : Nat → Nat → List Int → List Int
  | 0, _, out => out
  | n + 1, b, out => copyN n b (out ++ [out.getD (out.length - b) 0])
/-- A match: its length's symbol was read. -/
def sMatch (t : List UInt8) (L : Nat) (dl : List Int) (x p : Nat) (out : List Int) : Except Int (Nat × List Int) :=
  if x ≤ 285 then
    match sBits t p (lenOf x).2 with
    | .error e => .error e
    | .ok (v, p1) =>
      match sNext dl t p1 with
      | .error e => .error e
      | .ok (d, p2) =>
        if d ≤ 29 then
          match sBits t p2 (dstOf d).2 with
          | .error e => .error e
          | .ok (u, p3) =>
            if (dstOf d).1 + u ≤ out.length then
              if out.length + ((lenOf x).1 + v) ≤ L then .ok (p3, copyN ((lenOf x).1 + v) ((dstOf d).1 + u) out) else .error 11
            else .error 3
        else .error 3
  else .error 3
/-- A block's symbols, up to its end; so many of them at most. -/
def sSyms (t : List UInt8) (L : Nat) (ll dl : List Int) : Nat → Nat → List Int → Except Int (Nat × List Int)
  | 0, _, _ => .error (-1)
  | k + 1, p, out =>
    match sNext ll t p with
    | .error e => .error e
    | .ok (x, q) =>
      if x = 256 then .ok (q, out)
      else if x < 256 then (if out.length < L then sSyms t L ll dl k q (out ++ [(x : Int)]) else .error 11)
      else match sMatch t L dl x q out with
        | .error e => .error e
        | .ok (q', out') => sSyms t L ll dl k q' out'

end Go.Pu

