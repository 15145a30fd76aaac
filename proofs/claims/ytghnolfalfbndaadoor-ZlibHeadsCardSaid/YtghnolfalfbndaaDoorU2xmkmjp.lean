/- Plain facts on the models: what they compute, and what holds of them; conditions: what each theorem states. -/
import Derived.Test.YtghnolfalfbndaaDoorU1xegndj
set_option linter.unusedVariables false
set_option linter.unusedSimpArgs false
/- Adler-32: the program's and the document's. -/
namespace Go.Pu
open Go Go.Sl Go.Mo

def adlGo : List UInt8 → Nat → Nat → Nat × Nat
  | [], x, y => (x, y)
  | b :: s, x, y => adlGo s ((x + b.toNat) % 65521) ((y + (x + b.toNat) % 65521) % 65521)
def adl (s : List UInt8) : Nat := (adlGo s 1 0).2 * 65536 + (adlGo s 1 0).1
theorem adlGo_lt : ∀ s x y, x < 65521 → y < 65521 → (adlGo s x y).1 < 65521 ∧ (adlGo s x y).2 < 65521
  | [], _, _, hx, hy => ⟨hx, hy⟩
  | b :: s, x, y, _, _ => adlGo_lt s _ _ (Nat.mod_lt _ (by decide)) (Nat.mod_lt _ (by decide))
theorem adl_lt (s : List UInt8) : adl s < 4294967296 := by
  have := adlGo_lt s 1 0 (by decide) (by decide)
  unfold adl; omega
theorem adlGo_app : ∀ s t x y, adlGo (s ++ t) x y = adlGo t (adlGo s x y).1 (adlGo s x y).2
  | [], _, _, _ => rfl
  | b :: s, t, x, y => by rw [List.cons_append, adlGo, adlGo, adlGo_app s t]

theorem refAdler_l1 (K : Nat) (s : List UInt8) (hs : s.length < 1099511627776) : ∀ (j k i x y : Nat), i + j = s.length → j < k → x < 65521 → y < 65521 →
    mortiseref03_AdlerMore.l1 K s k (x : Int) (y : Int) (i : Int) = .ok (((adlGo (s.drop i) x y).2 * 65536 + (adlGo (s.drop i) x y).1 : Nat) : Int) := by
  intro j
  induction j with
  | zero =>
    intro k i x y hi hk hx hy
    obtain ⟨k, rfl⟩ : ∃ m, k = m + 1 := ⟨k - 1, by omega⟩
    rw [mortiseref03_AdlerMore.l1, List.drop_eq_nil_of_le (by omega)]
    simp (disch := omega) only [Res.bind_ok, Res.bind_pan, chk_true, lt_eq, unw_some, cond_true, cond_false, cond_dec, cond_beq, cond_bne, cond_not, cond_and, cond_or, w64_id, wru8_id, wru32_id, wru64_id, wri64_id, inb_of, subok_of, room_of, fits_of, dec_nn, Int.toNat_natCast, if_neg, mortiseref03_AdlerMore.j2, adlGo]
    congr 1; omega
  | succ j ih =>
    intro k i x y hi hk hx hy
    obtain ⟨k, rfl⟩ : ∃ m, k = m + 1 := ⟨k - 1, by omega⟩
    have hil : i < s.length := by omega
    have hb := s[i].toNat_lt
    rw [mortiseref03_AdlerMore.l1, List.drop_eq_getElem_cons hil, adlGo]
    have e1 : (rd s (i : Int)) = s[i] := rd_nat hil
    have e2 : (x : Int) + ((s[i].toNat : Nat) : Int) = ((x + s[i].toNat : Nat) : Int) := by push_cast; rfl
    have e3 : irem ((x + s[i].toNat : Nat) : Int) 65521 = (((x + s[i].toNat) % 65521 : Nat) : Int) := irem_nat (b := 65521)
    have e4 : (y : Int) + (((x + s[i].toNat) % 65521 : Nat) : Int) = ((y + (x + s[i].toNat) % 65521 : Nat) : Int) := (Int.natCast_add _ _).symm
    have e5 : irem ((y + (x + s[i].toNat) % 65521 : Nat) : Int) 65521 = (((y + (x + s[i].toNat) % 65521) % 65521 : Nat) : Int) := irem_nat (b := 65521)
    have e6 : (i : Int) + 1 = ((i + 1 : Nat) : Int) := by push_cast; rfl
    rw [e1]
    simp (disch := omega) only [Res.bind_ok, Res.bind_pan, chk_true, lt_eq, unw_some, cond_true, cond_false, cond_dec, cond_beq, cond_bne, cond_not, cond_and, cond_or, w64_id, wru8_id, wru32_id, wru64_id, wri64_id, inb_of, subok_of, room_of, fits_of, dec_nn, Int.toNat_natCast, if_pos, e2, e3, e4, e5, e6]
    exact ih k (i + 1) _ _ (by omega) (by omega) (Nat.mod_lt _ (by decide)) (Nat.mod_lt _ (by decide))
theorem refAdler (K : Nat) (s : List UInt8) (hs : s.length < 1099511627776) (hK : s.length < K) : mortiseref03_Adler.m K s = .ok (adl s : Int) := by
  unfold mortiseref03_Adler.m mortiseref03_AdlerMore.m
  have := refAdler_l1 K s hs s.length K 0 1 0 (by omega) hK (by decide) (by decide)
  rw [List.drop_zero] at this
  have e : irem (irem 1 65536) 65521 = 1 := by decide
  have e2 : irem (iquo .u32 1 65536) 65521 = 0 := by decide
  simp only [lt_eq, e, e2]
  rw [show ((0 : Nat) : Int) = 0 from rfl, show ((1 : Nat) : Int) = 1 from rfl] at this
  rw [this]
  rfl

def rawGo : List UInt8 → Nat → Nat → Nat × Nat
  | [], x, y => (x, y)
  | b :: s, x, y => rawGo s (x + b.toNat) (y + (x + b.toNat))
theorem rawGo_mod : ∀ s x y, (rawGo s x y).1 % 65521 = (adlGo s (x % 65521) (y % 65521)).1 ∧ (rawGo s x y).2 % 65521 = (adlGo s (x % 65521) (y % 65521)).2
  | [], _, _ => ⟨rfl, rfl⟩
  | b :: s, x, y => by
    rw [rawGo, adlGo]
    have := rawGo_mod s (x + b.toNat) (y + (x + b.toNat))
    have e1 : (x % 65521 + b.toNat) % 65521 = (x + b.toNat) % 65521 := by omega
    have e2 : (y % 65521 + (x + b.toNat) % 65521) % 65521 = (y + (x + b.toNat)) % 65521 := by omega
    rw [e1, e2]
    exact this
theorem progAdler_l2 (K : Nat) (g : List UInt8 → Int → Int → Res Int) (s : List UInt8) (n : Nat) (hn : n ≤ 5000) (hns : n ≤ s.length) : ∀ (j k i x y : Nat), i + j = n → j < k → x ≤ 65520 + 255 * i → 2 * y ≤ 131040 + 131040 * i + 255 * (i * (i + 1)) →
    sums_AdlerMore.l2 K g s (n : Int) k (x : Int) (y : Int) (i : Int) = sums_AdlerMore.j3 K g s (n : Int) ((rawGo ((s.take n).drop i) x y).1 : Int) ((rawGo ((s.take n).drop i) x y).2 : Int) := by
  intro j
  induction j with
  | zero =>
    intro k i x y hi hk hx hy
    obtain ⟨k, rfl⟩ : ∃ m, k = m + 1 := ⟨k - 1, by omega⟩
    rw [sums_AdlerMore.l2, List.drop_eq_nil_of_le (by simp; omega)]
    simp (disch := omega) only [Res.bind_ok, Res.bind_pan, chk_true, lt_eq, unw_some, cond_true, cond_false, cond_dec, cond_beq, cond_bne, cond_not, cond_and, cond_or, w64_id, wru8_id, wru32_id, wru64_id, wri64_id, inb_of, subok_of, room_of, fits_of, dec_nn, Int.toNat_natCast, if_neg, rawGo]
  | succ j ih =>
    intro k i x y hi hk hx hy
    obtain ⟨k, rfl⟩ : ∃ m, k = m + 1 := ⟨k - 1, by omega⟩
    have hil : i < s.length := by omega
    have hb := s[i].toNat_lt
    have hit : i < (s.take n).length := by simp; omega
    have hq : i * (i + 1) ≤ 5000 * 5001 := Nat.mul_le_mul (by omega) (by omega)
    have hq2 : (i + 1) * (i + 1 + 1) = i * (i + 1) + 2 * (i + 1) := by rw [Nat.add_mul, Nat.mul_add, Nat.mul_add]; omega
    rw [sums_AdlerMore.l2, List.drop_eq_getElem_cons hit, rawGo, List.getElem_take]
    have e1 : (rd s (i : Int)) = s[i] := rd_nat hil
    have e2 : (x : Int) + ((s[i].toNat : Nat) : Int) = ((x + s[i].toNat : Nat) : Int) := by push_cast; rfl
    have e4 : (y : Int) + ((x + s[i].toNat : Nat) : Int) = ((y + (x + s[i].toNat) : Nat) : Int) := by push_cast; rfl
    have e6 : (i : Int) + 1 = ((i + 1 : Nat) : Int) := by push_cast; rfl
    rw [e1]
    simp (disch := omega) only [Res.bind_ok, Res.bind_pan, chk_true, lt_eq, unw_some, cond_true, cond_false, cond_dec, cond_beq, cond_bne, cond_not, cond_and, cond_or, w64_id, wru8_id, wru32_id, wru64_id, wri64_id, inb_of, subok_of, room_of, fits_of, dec_nn, Int.toNat_natCast, if_pos, e2, e4, e6]
    exact ih k (i + 1) _ _ (by omega) (by omega) (by omega) (by rw [hq2]; omega)
theorem rawGo_lt (s : List UInt8) : ∀ x y, x ≤ (rawGo s x y).1 := by
  induction s with
  | nil => intro x y; exact Nat.le_refl _
  | cons b s ih => intro x y; rw [rawGo]; have := ih (x + b.toNat) (y + (x + b.toNat)); omega
theorem ior_shl16 {x y : Nat} (hx : x < 65536) (hy : y < 65536) : ior .u32 (ishl .u32 (y : Int) 16) (x : Int) = ((y * 65536 + x : Nat) : Int) := by
  have e1 : ishl .u32 (y : Int) 16 = ((y * 2 ^ 16 : Nat) : Int) := ishl_u32 (n := 16) (by omega) (by omega)
  rw [e1]
  show IntKind.u32.wrap ((BitVec.ofInt 32 ((y * 2 ^ 16 : Nat) : Int) ||| BitVec.ofInt 32 (x : Int)).toNat : Int) = _
  simp only [ofInt_nat, BitVec.toNat_or, BitVec.toNat_ofNat]
  rw [Nat.mod_eq_of_lt (by omega), Nat.mod_eq_of_lt (by omega), Nat.mul_comm y, ← Nat.two_pow_add_eq_or_of_lt (i := 16) (b := x) hx y]
  rw [show 2 ^ 16 * y + x = y * 65536 + x by omega]
  exact wru32_id (by omega) (by omega)
theorem progAdler_l1 (K : Nat) (hK : 5000 < K) : ∀ (j k x y : Nat) (s : List UInt8), s.length ≤ j → j < k → x < 65521 → y < 65521 →
    sums_AdlerMore.l1 K k s (x : Int) (y : Int) = .ok (((adlGo s x y).2 * 65536 + (adlGo s x y).1 : Nat) : Int) := by
  intro j
  induction j with
  | zero =>
    intro k x y s hs hk hx hy
    obtain ⟨k, rfl⟩ : ∃ m, k = m + 1 := ⟨k - 1, by omega⟩
    rw [sums_AdlerMore.l1]
    have : s = [] := List.eq_nil_of_length_eq_zero (by omega)
    subst this
    rw [show decide ((([] : List UInt8).length : Int) > 0) = false from rfl, cond_false]
    unfold sums_AdlerMore.j4
    simp only [lt_eq, adlGo]
    rw [ior_shl16 (by omega) (by omega)]
  | succ j ih =>
    intro k x y s hs hk hx hy
    obtain ⟨k, rfl⟩ : ∃ m, k = m + 1 := ⟨k - 1, by omega⟩
    rw [sums_AdlerMore.l1]
    by_cases h0 : s.length = 0
    · have : s = [] := List.eq_nil_of_length_eq_zero h0
      subst this
      rw [show decide ((([] : List UInt8).length : Int) > 0) = false from rfl, cond_false]
      unfold sums_AdlerMore.j4
      simp only [lt_eq, adlGo]
      rw [ior_shl16 (by omega) (by omega)]
    · rw [decide_eq_true (show (s.length : Int) > 0 by omega), cond_true]
      simp only [lt_eq]
      obtain ⟨n, hn, hn1⟩ : ∃ n : Nat, (if (s.length : Int) < (5000 : Int) then (s.length : Int) else (5000 : Int)) = (n : Int) ∧ (n ≤ 5000 ∧ n ≤ s.length ∧ 0 < n) := by
        by_cases h : s.length < 5000
        · exact ⟨s.length, by rw [if_pos (by omega)], by omega⟩
        · exact ⟨5000, by rw [if_neg (by omega)]; rfl, by omega⟩
      have hl2 := progAdler_l2 K (sums_AdlerMore.l1 K k) s n hn1.1 hn1.2.1 n K 0 x y (by omega) (by omega) (by omega) (by omega)
      rw [hn, show (0 : Int) = ((0 : Nat) : Int) from rfl, hl2, List.drop_zero]
      unfold sums_AdlerMore.j3
      obtain ⟨m1, m2⟩ := rawGo_mod (s.take n) x y
      rw [Nat.mod_eq_of_lt hx, Nat.mod_eq_of_lt hy] at m1 m2
      have e1 : irem ((rawGo (s.take n) x y).1 : Int) 65521 = ((adlGo (s.take n) x y).1 : Int) := by rw [← m1]; exact irem_nat (b := 65521)
      have e2 : irem ((rawGo (s.take n) x y).2 : Int) 65521 = ((adlGo (s.take n) x y).2 : Int) := by rw [← m2]; exact irem_nat (b := 65521)
      rw [subok_of (by omega) (by omega) (by omega), e1, e2, sub_drop]
      simp only [chk_true, lt_eq]
      obtain ⟨b1, b2⟩ := adlGo_lt (s.take n) x y hx hy
      rw [ih k _ _ (s.drop n) (by simp; omega) (by omega) b1 b2, ← adlGo_app, List.take_append_drop]
theorem progAdler (K : Nat) (s : List UInt8) (hK : 5000 + s.length < K) : sums_Adler.m K s = .ok (adl s : Int) := by
  unfold sums_Adler.m sums_AdlerMore.m
  have := progAdler_l1 K (by omega) s.length K 1 0 s (by omega) (by omega) (by decide) (by decide)
  have e : irem (iand .u32 1 65535) 65521 = 1 := by decide
  have e2 : irem (ishr .u32 1 16) 65521 = 0 := by decide
  simp only [lt_eq, e, e2]
  rw [show ((0 : Nat) : Int) = 0 from rfl, show ((1 : Nat) : Int) = 1 from rfl] at this
  rw [this]
  rfl
end Go.Pu

/- Windows: numbers of some bytes, the highest first. -/
namespace Go.Pu
open Go Go.Sl Go.Mo

def isW (w : Nat) : Prop := w = 1 ∨ w = 2 ∨ w = 4 ∨ w = 8
theorem progIsWidth (K : Nat) (w : Nat) (hw : isW w) : win_isWidth.m K (w : Int) = .ok true := by
  rcases hw with rfl | rfl | rfl | rfl <;> rfl
/-- So many bytes from a place on, the highest first. -/
def beN (s : List UInt8) (at_ : Nat) : Nat → Nat
  | 0 => 0
  | w + 1 => beN s at_ w * 256 + byteN s (at_ + w)
theorem beN_lt (s : List UInt8) (at_ : Nat) : ∀ w, beN s at_ w < 256 ^ w
  | 0 => by simp [beN]
  | w + 1 => by
    have := beN_lt s at_ w
    have h2 := byteN_lt s (at_ + w)
    rw [beN, Nat.pow_succ]; omega
/-- The last i of w bytes. -/
def leTail (s : List UInt8) (w : Nat) : Nat → Nat
  | 0 => 0
  | i + 1 => leTail s w i + byteN s (w - 1 - i) * 2 ^ (8 * i)
theorem leTail_lt (s : List UInt8) (w : Nat) : ∀ i, leTail s w i < 2 ^ (8 * i)
  | 0 => by simp [leTail]
  | i + 1 => by
    have := leTail_lt s w i
    have h2 := byteN_lt s (w - 1 - i)
    have h3 : byteN s (w - 1 - i) * 2 ^ (8 * i) ≤ 255 * 2 ^ (8 * i) := Nat.mul_le_mul_right _ (by omega)
    rw [leTail, show 8 * (i + 1) = 8 * i + 8 by omega, Nat.pow_add]; omega
theorem leTail_be (s : List UInt8) (w : Nat) : ∀ i, i ≤ w → beN s 0 w = beN s 0 (w - i) * 2 ^ (8 * i) + leTail s w i
  | 0, _ => by simp [leTail]
  | i + 1, h => by
    rw [leTail_be s w i (by omega), leTail]
    have e : w - i = (w - (i + 1)) + 1 := by omega
    rw [e, beN, Nat.zero_add, show w - 1 - i = w - (i + 1) by omega, show 8 * (i + 1) = 8 + 8 * i by omega, Nat.pow_add, Nat.add_mul, Nat.mul_assoc, show (2 : Nat) ^ 8 = 256 from rfl]
    omega
theorem byteN_drop (s : List UInt8) (at_ w i : Nat) (h : i < w) : byteN ((s.drop at_).take w) i = byteN s (at_ + i) := by
  unfold byteN
  rw [List.getD_eq_getElem?_getD, List.getD_eq_getElem?_getD, List.getElem?_take, if_pos h, List.getElem?_drop]
theorem beN_drop (s : List UInt8) (at_ w : Nat) : ∀ i, i ≤ w → beN ((s.drop at_).take w) 0 i = beN s at_ i
  | 0, _ => rfl
  | i + 1, h => by rw [beN, beN, beN_drop s at_ w i (by omega), Nat.zero_add, byteN_drop s at_ w i (by omega)]
theorem uintT_l1 (K : Nat) (v : List UInt8) (w : Nat) (hw : w ≤ 8) (hv : v.length = w) : ∀ (j k i : Nat), i + j = w → j < k →
    win_Window_Uint_true.l1 K (w : Int) v k (leTail v w i : Int) (i : Int) = .ok ((beN v 0 w : Int), 0) := by
  intro j
  induction j with
  | zero =>
    intro k i hi hk
    obtain ⟨k, rfl⟩ : ∃ m, k = m + 1 := ⟨k - 1, by omega⟩
    rw [win_Window_Uint_true.l1]
    have := leTail_be v w w (Nat.le_refl _)
    rw [Nat.sub_self] at this
    have e : leTail v w i = beN v 0 w := by
      rw [show i = w by omega, this]; simp [beN]
    simp (disch := omega) only [Res.bind_ok, Res.bind_pan, chk_true, lt_eq, unw_some, cond_true, cond_false, cond_dec, cond_beq, cond_bne, cond_not, cond_and, cond_or, w64_id, wru8_id, wru32_id, wru64_id, wri64_id, inb_of, subok_of, room_of, fits_of, dec_nn, Int.toNat_natCast, if_neg, e]
  | succ j ih =>
    intro k i hi hk
    obtain ⟨k, rfl⟩ : ∃ m, k = m + 1 := ⟨k - 1, by omega⟩
    rw [win_Window_Uint_true.l1]
    unfold win_order_1_e6c5.m
    have e1 : (w : Int) - 1 - (i : Int) = ((w - 1 - i : Nat) : Int) := by omega
    have e2 : (8 : Int) * (i : Int) = ((8 * i : Nat) : Int) := by omega
    have e6 : (i : Int) + 1 = ((i + 1 : Nat) : Int) := by push_cast; rfl
    have hb := byteN_lt v (w - 1 - i)
    simp (disch := omega) only [Res.bind_ok, Res.bind_pan, chk_true, lt_eq, unw_some, cond_true, cond_false, cond_dec, cond_beq, cond_bne, cond_not, cond_and, cond_or, w64_id, wru8_id, wru32_id, wru64_id, wri64_id, inb_of, subok_of, room_of, fits_of, dec_nn, Int.toNat_natCast, if_pos, e1, e2, e6, rd_byte]
    have hpow : 2 ^ (8 * i) ≤ 2 ^ 56 := Nat.pow_le_pow_right (by decide) (by omega)
    have hm : byteN v (w - 1 - i) * 2 ^ (8 * i) ≤ 255 * 2 ^ (8 * i) := Nat.mul_le_mul_right _ (by omega)
    have hl := leTail_lt v w i
    rw [ishl_u64 (by omega) (by omega), ior_u64 (by omega) (by omega)]
    have e3 : leTail v w i ||| byteN v (w - 1 - i) * 2 ^ (8 * i) = leTail v w (i + 1) := by
      rw [Nat.or_comm, Nat.mul_comm, ← Nat.two_pow_add_eq_or_of_lt hl, leTail, Nat.mul_comm]; omega
    rw [e3]
    exact ih k (i + 1) (by omega) (by omega)
/-- A number of a window, the highest byte first; or it is cut. -/
def uintB (s : List UInt8) (at_ w : Nat) : Nat × Int := if at_ + w ≤ s.length then (beN s at_ w, 0) else (0, 2)
theorem progSub (K : Nat) (s : List UInt8) (base : Int) (at_ n : Nat) (hs : s.length < 1099511627776) (ha : at_ < 9223372036854775808) (hn : n < 9223372036854775808) (hb0 : 0 ≤ base) (hb1 : base < 1099511627776) :
    win_Window_Sub.m K ⟨s, base⟩ (at_ : Int) (n : Int) = if at_ + n ≤ s.length then .ok ((s.drop at_).take n, base + at_, 0) else .ok ([], 0, 2) := by
  unfold win_Window_Sub.m
  have h0 : (decide ((at_ : Int) < 0) || decide ((n : Int) < 0)) = false := by rw [Bool.or_eq_false_iff]; exact ⟨decide_eq_false (by omega), decide_eq_false (by omega)⟩
  rw [h0, cond_false]
  dsimp only
  by_cases h : at_ + n ≤ s.length
  · have h1 : (decide ((at_ : Int) > (s.length : Int)) || decide ((n : Int) > w64 ((s.length : Int) - (at_ : Int)))) = false := by
      rw [Bool.or_eq_false_iff, w64_id (by omega) (by omega)]; exact ⟨decide_eq_false (by omega), decide_eq_false (by omega)⟩
    have e : w64 ((at_ : Int) + (n : Int)) = ((at_ + n : Nat) : Int) := by rw [w64_id (by omega) (by omega)]; push_cast; rfl
    rw [h1, cond_false, if_pos h, e, subok_of (by omega) (by omega) (by omega), sub_mid, Nat.add_sub_cancel_left, w64_id (by omega) (by omega)]
    rfl
  · have h1 : (decide ((at_ : Int) > (s.length : Int)) || decide ((n : Int) > w64 ((s.length : Int) - (at_ : Int)))) = true := by
      rw [Bool.or_eq_true, decide_eq_true_eq, decide_eq_true_eq]
      by_cases h2 : at_ > s.length
      · left; omega
      · right; rw [w64_id (by omega) (by omega)]; omega
    rw [h1, cond_true, if_neg h]
theorem uintT (K : Nat) (s : List UInt8) (base : Int) (at_ w : Nat) (hw : isW w) (hs : s.length < 1099511627776) (ha : at_ < 9223372036854775808) (hb0 : 0 ≤ base) (hb1 : base < 1099511627776) (hK : 8 < K) :
    win_Window_Uint_true.m K ⟨s, base⟩ (at_ : Int) (w : Int) = .ok (((uintB s at_ w).1 : Int), (uintB s at_ w).2) := by
  unfold win_Window_Uint_true.m uintB
  have hw8 : w ≤ 8 := by unfold isW at hw; omega
  rw [progIsWidth K w hw, progSub K s base at_ w hs ha (by omega) hb0 hb1]
  simp only [Res.bind_ok, Bool.not_true, cond_false]
  by_cases h : at_ + w ≤ s.length
  · rw [if_pos h, if_pos h]
    have z : ((0 : Int) != 0) = false := rfl
    simp only [Res.bind_ok, z, cond_false, win_order_true.m]
    have hl : ((s.drop at_).take w).length = w := by simp; omega
    have := uintT_l1 K ((s.drop at_).take w) w hw8 hl w K 0 (by omega) (by omega)
    rw [beN_drop s at_ w w (Nat.le_refl _)] at this
    exact this
  · rw [if_neg h, if_neg h]
    rfl
end Go.Pu

/- Zlib: what both readers answer; the two laws. -/
namespace Go.Pu
open Go Go.Sl Go.Mo

def zHead (s : List UInt8) : Prop := byteN s 0 % 16 = 8 ∧ byteN s 0 / 16 ≤ 7 ∧ (256 * byteN s 0 + byteN s 1) % 31 = 0 ∧ byteN s 1 / 32 % 2 = 0
instance (s : List UInt8) : Decidable (zHead s) := inferInstanceAs (Decidable (_ ∧ _))
/-- What unzipping answers. -/
def aUnzip (K : Nat) (s : List UInt8) (limit : Int) : List UInt8 × Int × Int :=
  if limit < 0 ∨ 1073741824 < limit then ([], 0, 1)
  else if s.length < 2 then ([], 0, 2)
  else if zHead s then
    (match sInfl (s.drop 2) limit.toNat K K 0 [] with
    | .error e => ([], 0, e)
    | .ok (q, o) =>
      if 2 + (q + 7) / 8 + 4 ≤ s.length then
        (if beN s (2 + (q + 7) / 8) 4 = adl (o.map tob) then (o.map tob, ((6 + (q + 7) / 8 : Nat) : Int), 0) else ([], 0, 4))
      else ([], 0, 2))
  else ([], 0, 3)
theorem iand_u64_15 {a : Nat} (h : a < 18446744073709551616) : iand .u64 (a : Int) 15 = ((a % 16 : Nat) : Int) := by
  have := iand_u64 (a := a) (b := 15) h (by decide)
  rw [show ((15 : Nat) : Int) = 15 from rfl] at this
  rw [this, show (15 : Nat) = 2 ^ 4 - 1 from rfl, Nat.and_two_pow_sub_one_eq_mod]
theorem iand_u64_32 {a : Nat} (h : a < 18446744073709551616) : iand .u64 (a : Int) 32 = ((a / 32 % 2 * 32 : Nat) : Int) := by
  have := iand_u64 (a := a) (b := 32) h (by decide)
  rw [show ((32 : Nat) : Int) = 32 from rfl] at this
  rw [this]
  congr 1
  apply Nat.eq_of_testBit_eq
  intro j
  rw [Nat.testBit_and, show (32 : Nat) = 2 ^ 5 from rfl, Nat.testBit_two_pow, Nat.testBit_mul_two_pow]
  have e := Nat.testBit_mod_two_pow (a / 2 ^ 5) 1 (j - 5)
  rw [Nat.pow_one, Nat.testBit_div_two_pow] at e
  rw [e]
  by_cases hj : 5 = j
  · subst hj; simp
  · by_cases h5 : 5 ≤ j
    · simp [hj, show ¬ j - 5 < 1 by omega]
    · simp [hj, h5]
theorem irem_nat' (a b : Nat) (c : Int) (hc : c = (b : Int)) : irem (a : Int) c = ((a % b : Nat) : Int) := by subst hc; exact irem_nat
theorem iquo_nat' (a b : Nat) (c : Int) (hc : c = (b : Int)) (ha : a < 9223372036854775808) (hb : b < 9223372036854775808) : iquo .i64 (a : Int) c = ((a / b : Nat) : Int) := by subst hc; exact iquo_nat ha hb
theorem ishr_u64' (a n : Nat) (c : Int) (hc : c = (n : Int)) (hn : n ≤ 64) : ishr .u64 (a : Int) c = ((a / 2 ^ n : Nat) : Int) := by subst hc; exact ishr_nat (k := .u64) hn
theorem bor_true {a b : Bool} (h : a = true ∨ b = true) : (a || b) = true := by rcases h with h | h <;> simp [h]
theorem zHead_prog {s : List UInt8} (n : Nat) (hn : n = beN s 0 2) : ((((((iand .u64 (ishr .u64 (n : Int) (8 : Int)) (15 : Int)) != (8 : Int)) || (decide ((ishr .u64 (n : Int) (12 : Int)) > (7 : Int)))) || ((irem (n : Int) (31 : Int)) != (0 : Int))) || ((iand .u64 (n : Int) (32 : Int)) != (0 : Int)))) = !decide (zHead s) := by
  have h0 := byteN_lt s 0
  have h1 := byteN_lt s 1
  have hn2 : n = byteN s 0 * 256 + byteN s 1 := by rw [hn]; simp [beN]
  clear hn
  rw [ishr_u64' n 8 8 rfl (by decide), ishr_u64' n 12 12 rfl (by decide), show (2 : Nat) ^ 8 = 256 from rfl, show (2 : Nat) ^ 12 = 4096 from rfl, iand_u64_15 (by omega), irem_nat' n 31 31 rfl, iand_u64_32 (by omega)]
  rw [Bool.eq_iff_iff]
  simp only [Bool.or_eq_true, bne_iff_ne, decide_eq_true_eq, Bool.not_eq_true', decide_eq_false_iff_not]
  unfold zHead
  generalize byteN s 0 = a at *
  generalize byteN s 1 = b at *
  subst hn2
  have e1 : (a * 256 + b) / 256 = a := by omega
  have e2 : (a * 256 + b) / 4096 = a / 16 := by omega
  have e3 : (a * 256 + b) / 32 % 2 = b / 32 % 2 := by omega
  have e4 : 256 * a + b = a * 256 + b := by omega
  rw [e1, e2, e3, e4]
  generalize (a * 256 + b) % 31 = r
  generalize b / 32 % 2 = u
  omega
theorem zHead_ref {s : List UInt8} : ((((((irem (byteN s 0 : Int) (16 : Int)) != (8 : Int)) || (decide ((iquo .i64 (byteN s 0 : Int) (16 : Int)) > (7 : Int)))) || ((irem (w64 ((w64 ((256 : Int) * (byteN s 0 : Int))) + (byteN s 1 : Int))) (31 : Int)) != (0 : Int))) || ((irem (iquo .i64 (byteN s 1 : Int) (32 : Int)) (2 : Int)) == (1 : Int)))) = !decide (zHead s) := by
  have h0 := byteN_lt s 0
  have h1 := byteN_lt s 1
  have e : w64 ((w64 ((256 : Int) * (byteN s 0 : Int))) + (byteN s 1 : Int)) = ((256 * byteN s 0 + byteN s 1 : Nat) : Int) := by
    rw [w64_id (x := (256 : Int) * (byteN s 0 : Int)) (by omega) (by omega), w64_id (by omega) (by omega)]; omega
  rw [e, irem_nat' _ 16 16 rfl, iquo_nat' _ 16 16 rfl (by omega) (by decide), irem_nat' _ 31 31 rfl, iquo_nat' _ 32 32 rfl (by omega) (by decide), irem_nat' _ 2 2 rfl]
  rw [Bool.eq_iff_iff]
  simp only [Bool.or_eq_true, bne_iff_ne, beq_iff_eq, decide_eq_true_eq, Bool.not_eq_true', decide_eq_false_iff_not]
  unfold zHead
  omega
theorem progUnzip (K : Nat) (s : List UInt8) (limit : Int) (hs : s.length < 1099511627776) (hK : 1000 + 8 * s.length < K) (hK2 : limit + 6000 < K) : zlib_Unzip.m K s limit = .ok (aUnzip K s limit) := by
  unfold zlib_Unzip.m aUnzip
  by_cases h : limit < 0 ∨ 1073741824 < limit
  · rw [if_pos h]
    have : (decide (limit < (0 : Int)) || decide (limit > (1073741824 : Int))) = true := by rw [Bool.or_eq_true, decide_eq_true_eq, decide_eq_true_eq]; omega
    rw [this]; rfl
  · rw [if_neg h]
    have : (decide (limit < (0 : Int)) || decide (limit > (1073741824 : Int))) = false := by rw [Bool.or_eq_false_iff, decide_eq_false_iff_not, decide_eq_false_iff_not]; omega
    rw [this, cond_false]
    have hu := uintT K s 0 0 2 (by unfold isW; omega) hs (by omega) (by omega) (by omega) (by omega)
    rw [show ((0 : Nat) : Int) = 0 from rfl, show ((2 : Nat) : Int) = 2 from rfl] at hu
    simp only [win_Of.m, Res.bind_ok, hu]
    unfold uintB
    by_cases h2 : s.length < 2
    · rw [if_pos h2, if_neg (by omega)]
      rfl
    · rw [if_neg h2, if_pos (by omega)]
      have z : ((0 : Int) != 0) = false := rfl
      simp only [z, cond_false]
      rw [zHead_prog (s := s) (beN s 0 2) rfl]
      by_cases hh : zHead s
      · rw [if_pos hh, decide_eq_true hh]
        simp only [Bool.not_true, cond_false]
        have hsub := sub_drop s 2
        rw [show ((2 : Nat) : Int) = 2 from rfl] at hsub
        rw [subok_of (by omega) (by omega) (by omega), hsub, progInflate K (s.drop 2) limit (by simp; omega) (by simp; omega)]
        simp only [chk_true, Res.bind_ok]
        unfold aInfl
        rw [if_neg h]
        cases hr : sInfl (s.drop 2) limit.toNat K K 0 [] with
        | error e =>
          have he := sInfl_err hr (by simp; omega) (by simp; omega) (by simp) (by simp)
          simp only [bne_iff_ne.2 (show e ≠ 0 by omega), cond_true]
        | ok x =>
          obtain ⟨q, o⟩ := x
          obtain ⟨_, hq, ho⟩ := sInfl_ok hr (by simp)
          rw [List.length_drop] at hq
          simp only [z, cond_false, lt_eq]
          have e1 : w64 ((((q + 7) / 8 : Nat) : Int) + 2) = ((2 + (q + 7) / 8 : Nat) : Int) := by rw [w64_id (by omega) (by omega)]; omega
          have hu := uintT K s 0 (2 + (q + 7) / 8) 4 (by unfold isW; omega) hs (by omega) (by omega) (by omega) (by omega)
          rw [show ((4 : Nat) : Int) = 4 from rfl] at hu
          rw [e1, hu]
          unfold uintB
          by_cases h4 : 2 + (q + 7) / 8 + 4 ≤ s.length
          · rw [if_pos h4, if_pos h4]
            have hb := beN_lt s (2 + (q + 7) / 8) 4
            simp only [Res.bind_ok, z, cond_false]
            rw [progAdler K _ (by rw [List.length_map]; omega)]
            simp only [Res.bind_ok]
            rw [wru32_id (by omega) (by omega)]
            by_cases ha : beN s (2 + (q + 7) / 8) 4 = adl (o.map tob)
            · rw [if_pos ha, ha]
              have zz : ((adl (o.map tob) : Int) != (adl (o.map tob) : Int)) = false := by simp
              rw [zz, cond_false, w64_id (by omega) (by omega)]
              congr 3
              omega
            · rw [if_neg ha, bne_iff_ne.2 (by omega), cond_true]
          · rw [if_neg h4, if_neg h4]
            rfl
      · rw [if_neg hh, decide_eq_false hh]
        rfl
theorem be4 (s : List UInt8) (at_ : Nat) (h : at_ + 4 ≤ s.length) (A : Nat) (hA : A < 4294967296) : ((s.drop at_).take 4 = [UInt8.ofNat (A / 16777216), UInt8.ofNat (A / 65536 % 256), UInt8.ofNat (A / 256 % 256), UInt8.ofNat (A % 256)]) ↔ beN s at_ 4 = A := by
  have e : (s.drop at_).take 4 = [s.getD at_ 0, s.getD (at_ + 1) 0, s.getD (at_ + 2) 0, s.getD (at_ + 3) 0] := by
    apply List.ext_getElem
    · simp; omega
    · intro i h1 h2
      simp only [List.getElem_take, List.getElem_drop]
      have h3 : i < 4 := by simpa using h2
      have h4 : at_ + i < s.length := by omega
      rw [show s[at_ + i] = s.getD (at_ + i) 0 by simp [List.getD_eq_getElem?_getD, h4]]
      have : i = 0 ∨ i = 1 ∨ i = 2 ∨ i = 3 := by omega
      rcases this with rfl | rfl | rfl | rfl <;> rfl
  have hb : beN s at_ 4 = ((byteN s at_ * 256 + byteN s (at_ + 1)) * 256 + byteN s (at_ + 2)) * 256 + byteN s (at_ + 3) := by simp [beN]
  have l0 := byteN_lt s at_
  have l1 := byteN_lt s (at_ + 1)
  have l2 := byteN_lt s (at_ + 2)
  have l3 := byteN_lt s (at_ + 3)
  have key : ∀ (i n : Nat), n < 256 → (s.getD i 0 = UInt8.ofNat n ↔ byteN s i = n) := by
    intro i n hn
    unfold byteN
    constructor
    · intro hx; rw [hx]; simp; omega
    · intro hx; rw [← hx]; exact UInt8.ofNat_toNat.symm
  rw [e, hb]
  constructor
  · intro hx
    simp only [List.cons.injEq, and_true] at hx
    obtain ⟨x0, x1, x2, x3⟩ := hx
    rw [key _ _ (by omega)] at x0 x1 x2 x3
    omega
  · intro hx
    simp only [List.cons.injEq, and_true]
    rw [key _ _ (by omega), key _ _ (by omega), key _ _ (by omega), key _ _ (by omega)]
    omega
theorem refSum (K A : Nat) (hA : A < 4294967296) : mortiseref10_Sum.m K (A : Int) = .ok [UInt8.ofNat (A / 16777216), UInt8.ofNat (A / 65536 % 256), UInt8.ofNat (A / 256 % 256), UInt8.ofNat (A % 256)] := by
  unfold mortiseref10_Sum.m
  have q : ∀ b : Nat, iquo .u32 (A : Int) (b : Int) = ((A / b : Nat) : Int) := by
    intro b
    unfold iquo
    rw [show (A : Int).tdiv (b : Int) = ((A / b : Nat) : Int) by rw [Int.ofNat_tdiv]]
    have : A / b ≤ A := Nat.div_le_self _ _
    generalize A / b = q at this ⊢
    exact wru32_id (by omega) (by omega)
  have q1 := q 16777216
  have q2 := q 65536
  have q3 := q 256
  rw [show ((16777216 : Nat) : Int) = 16777216 from rfl] at q1
  rw [show ((65536 : Nat) : Int) = 65536 from rfl] at q2
  rw [show ((256 : Nat) : Int) = 256 from rfl] at q3
  have w : ∀ b : Nat, wr .u8 (b : Int) = ((b % 256 : Nat) : Int) := fun b => by rw [wru8]; omega
  rw [q1, q2, q3, w, w, w, w]
  have : A / 16777216 % 256 = A / 16777216 := by omega
  rw [this]
  rfl
theorem refUnzip (K : Nat) (s : List UInt8) (limit : Int) (hs : s.length < 1099511627776) (hK : 1000 + 8 * s.length < K) (hK2 : limit + 6000 < K) : mortiseref10_Unzip.m K s limit = .ok (aUnzip K s limit) := by
  unfold mortiseref10_Unzip.m aUnzip
  by_cases h : limit < 0 ∨ 1073741824 < limit
  · rw [if_pos h]
    have : (decide (limit < (0 : Int)) || decide (limit > (1073741824 : Int))) = true := by rw [Bool.or_eq_true, decide_eq_true_eq, decide_eq_true_eq]; omega
    rw [this]; rfl
  · rw [if_neg h]
    have : (decide (limit < (0 : Int)) || decide (limit > (1073741824 : Int))) = false := by rw [Bool.or_eq_false_iff, decide_eq_false_iff_not, decide_eq_false_iff_not]; omega
    rw [this, cond_false]
    by_cases h2 : s.length < 2
    · rw [if_pos h2, decide_eq_true (by omega), cond_true]
    · rw [if_neg h2, decide_eq_false (by omega), cond_false]
      rw [show inb 0 s.length = true from inb_nat (i := 0) (by omega), show inb 1 s.length = true from inb_nat (i := 1) (by omega)]
      have r0 : ((rd s 0).toNat : Int) = (byteN s 0 : Int) := rd_byte (i := 0)
      have r1 : ((rd s 1).toNat : Int) = (byteN s 1 : Int) := rd_byte (i := 1)
      have l0 := byteN_lt s 0
      have l1 := byteN_lt s 1
      simp only [chk_true, lt_eq]
      rw [r0, r1, wri64_id (by omega) (by omega), wri64_id (by omega) (by omega), zHead_ref]
      by_cases hh : zHead s
      · rw [if_pos hh, decide_eq_true hh]
        simp only [Bool.not_true, cond_false]
        have hsub := sub_drop s 2
        rw [show ((2 : Nat) : Int) = 2 from rfl] at hsub
        rw [subok_of (by omega) (by omega) (by omega), hsub, refInflate K (s.drop 2) limit (by simp; omega) (by simp; omega)]
        simp only [chk_true, Res.bind_ok]
        unfold aInfl
        rw [if_neg h]
        cases hr : sInfl (s.drop 2) limit.toNat K K 0 [] with
        | error e =>
          have he := sInfl_err hr (by simp; omega) (by simp; omega) (by simp) (by simp)
          simp only [bne_iff_ne.2 (show e ≠ 0 by omega), cond_true]
        | ok x =>
          obtain ⟨q, o⟩ := x
          obtain ⟨_, hq, ho⟩ := sInfl_ok hr (by simp)
          rw [List.length_drop] at hq
          have z : ((0 : Int) != 0) = false := rfl
          simp only [z, cond_false]
          have e0 : w64 (w64 ((s.length : Int) - 2) - (((q + 7) / 8 : Nat) : Int)) = (s.length : Int) - 2 - (((q + 7) / 8 : Nat) : Int) := by
            rw [w64_id (x := (s.length : Int) - 2) (by omega) (by omega), w64_id (by omega) (by omega)]
          rw [e0]
          by_cases h4 : 2 + (q + 7) / 8 + 4 ≤ s.length
          · rw [if_pos h4, decide_eq_false (by omega), cond_false]
            have e1 : w64 ((2 : Int) + (((q + 7) / 8 : Nat) : Int)) = ((2 + (q + 7) / 8 : Nat) : Int) := by rw [w64_id (by omega) (by omega)]; omega
            have e2 : w64 ((6 : Int) + (((q + 7) / 8 : Nat) : Int)) = ((6 + (q + 7) / 8 : Nat) : Int) := by rw [w64_id (by omega) (by omega)]; omega
            rw [e1, e2, subok_of (by omega) (by omega) (by omega), sub_mid, show 6 + (q + 7) / 8 - (2 + (q + 7) / 8) = 4 by omega, refAdler K _ (by rw [List.length_map]; omega) (by rw [List.length_map]; omega)]
            simp only [chk_true, Res.bind_ok]
            rw [refSum K _ (adl_lt _)]
            simp only [Res.bind_ok]
            by_cases ha : beN s (2 + (q + 7) / 8) 4 = adl (o.map tob)
            · rw [if_pos ha, beq_iff_eq.2 ((be4 s _ (by omega) _ (adl_lt _)).2 ha)]
              rfl
            · rw [if_neg ha, beq_eq_false_iff_ne.2 (fun hx => ha ((be4 s _ (by omega) _ (adl_lt _)).1 hx))]
              rfl
          · rw [if_neg h4, decide_eq_true (by omega), cond_true]
      · rw [if_neg hh, decide_eq_false hh]
        rfl

theorem live10 (K : Nat) (hK : 9000 < K) : mortiselaw10_live.m K = .ok true := by
  obtain ⟨m, rfl⟩ : ∃ m, K = m + 9000 := ⟨K - 9000, by omega⟩
  unfold mortiselaw10_live.m
  rw [progUnzip _ _ _ (by decide) (by simp) (by omega), progUnzip _ _ _ (by decide) (by simp) (by omega), progUnzip _ _ _ (by decide) (by simp) (by omega)]
  rw [show aUnzip (m + 9000) [120, 156, 3, 0, 0, 0, 0, 1, 122] 0 = ([], 8, 0) by kernel_rfl, show aUnzip (m + 9000) [120, 156, 3, 0, 0, 0, 0, 2] 0 = ([], 0, 4) by kernel_rfl,
    show aUnzip (m + 9000) [120, 157] 0 = ([], 0, 3) by kernel_rfl]
  rfl
theorem pure_ZlibReads (s : List UInt8) (limit : Int) (hs : s.length ≤ 140737488351232) (hlimit : (Lit.int .i64 limit).wf = true) : mortiselaw10_ZlibReads.m 100000 s limit = .ok true := by
  unfold mortiselaw10_ZlibReads.m
  rw [live10 _ (by decide)]
  by_cases h : s.length > 3000 ∨ limit > 40000
  · have : (decide ((s.length : Int) > (3000 : Int)) || decide (limit > (40000 : Int))) = true := by rw [Bool.or_eq_true, decide_eq_true_eq, decide_eq_true_eq]; omega
    rw [this]; rfl
  · have : (decide ((s.length : Int) > (3000 : Int)) || decide (limit > (40000 : Int))) = false := by rw [Bool.or_eq_false_iff, decide_eq_false_iff_not, decide_eq_false_iff_not]; omega
    rw [this, cond_false, progUnzip _ s limit (by omega) (by omega) (by omega), refUnzip _ s limit (by omega) (by omega) (by omega)]
    obtain ⟨a, n, e⟩ := aUnzip 100000 s limit
    simp only [Res.bind_ok, beq_self_eq_true, Bool.and_true, cond_true, mortiselaw10_ZlibReads.j1]
end Go.Pu

/- ZlibHeads: the plain part. -/
namespace Go.Pu
open Go Go.Sl Go.Mo

theorem u8_15 : ∀ a : Nat, a < 256 → iand .u8 (a : Int) 15 = ((a % 16 : Nat) : Int) := by decide +kernel
theorem u8_32 : ∀ a : Nat, a < 256 → iand .u8 (a : Int) 32 = ((a / 32 % 2 * 32 : Nat) : Int) := by decide +kernel
theorem u8_s4 : ∀ a : Nat, a < 256 → ishr .u8 (a : Int) 4 = ((a / 16 : Nat) : Int) := by decide +kernel
theorem wf_u8 {a : Int} (h : (Lit.int .u8 a).wf = true) : ∃ n : Nat, a = (n : Int) ∧ n < 256 := by
  have h2 : 0 ≤ a ∧ a < 256 := by
    simp [Lit.wf, Go.IntKind.min, Go.IntKind.max, Go.IntKind.signed, Go.IntKind.bits] at h
    omega
  exact ⟨a.toNat, by omega, by omega⟩
theorem pure_ZlibHeads (a b : Int) (ha : (Lit.int .u8 a).wf = true) (hb : (Lit.int .u8 b).wf = true) : mortiselaw10_ZlibHeads.m 100000 a b = .ok true := by
  obtain ⟨a, rfl, ha'⟩ := wf_u8 ha
  obtain ⟨b, rfl, hb'⟩ := wf_u8 hb
  clear ha hb
  have ha := ha'
  have hb := hb'
  clear ha' hb'
  unfold mortiselaw10_ZlibHeads.m
  rw [fits_of (by simp)]
  simp only [chk_true, lt_eq]
  have hl : (([((a : Nat) : Int), ((b : Nat) : Int)] : List Int).map tob ++ [3, 0, 0, 0, 0, 1]) = [UInt8.ofNat a, UInt8.ofNat b, 3, 0, 0, 0, 0, 1] := rfl
  rw [hl, progUnzip _ _ _ (by simp) (by simp) (by decide)]
  have b0 : byteN [UInt8.ofNat a, UInt8.ofNat b, 3, 0, 0, 0, 0, 1] 0 = a := by
    show (UInt8.ofNat a).toNat = a
    simp; omega
  have b1 : byteN [UInt8.ofNat a, UInt8.ofNat b, 3, 0, 0, 0, 0, 1] 1 = b := by
    show (UInt8.ofNat b).toNat = b
    simp; omega
  have hi : sInfl ([UInt8.ofNat a, UInt8.ofNat b, 3, 0, 0, 0, 0, 1].drop 2) (Int.toNat 0) 100000 100000 0 [] = .ok (10, []) := by
    show sInfl [3, 0, 0, 0, 0, 1] 0 100000 100000 0 [] = .ok (10, [])
    kernel_rfl
  have hn : beN [UInt8.ofNat a, UInt8.ofNat b, 3, 0, 0, 0, 0, 1] 4 4 = adl ([] : List UInt8) := by
    simp [adl, adlGo, beN, byteN]
  have hA : aUnzip 100000 [UInt8.ofNat a, UInt8.ofNat b, 3, 0, 0, 0, 0, 1] 0 = if zHead [UInt8.ofNat a, UInt8.ofNat b, 3, 0, 0, 0, 0, 1] then ([], 8, 0) else ([], 0, 3) := by
    unfold aUnzip
    rw [if_neg (by decide), if_neg (by simp)]
    by_cases hh : zHead [UInt8.ofNat a, UInt8.ofNat b, 3, 0, 0, 0, 0, 1]
    · rw [if_pos hh, if_pos hh, hi]
      dsimp only
      rw [if_pos (by simp), show 2 + (10 + 7) / 8 = 4 from rfl, if_pos (show beN _ 4 4 = adl (List.map tob []) from hn)]
      rfl
    · rw [if_neg hh, if_neg hh]
  have hr : ((((iand .u8 (a : Int) 15 == 8) && decide (ishr .u8 (a : Int) 4 ≤ 7)) && (irem (w64 (ishl .i64 (wr .i64 (a : Int)) 8 + wr .i64 (b : Int))) 31 == 0)) && (iand .u8 (b : Int) 32 == 0)) = decide (zHead [UInt8.ofNat a, UInt8.ofNat b, 3, 0, 0, 0, 0, 1]) := by
    have e1 : ishl .i64 (a : Int) 8 = ((a * 2 ^ 8 : Nat) : Int) := ishl_i64 (n := 8) (by omega) (by omega)
    rw [u8_15 a ha, u8_s4 a ha, u8_32 b hb, wri64_id (by omega) (by omega), wri64_id (by omega) (by omega), e1, w64_id (by omega) (by omega), show ((a * 2 ^ 8 : Nat) : Int) + (b : Int) = ((256 * a + b : Nat) : Int) by omega, irem_nat' _ 31 31 rfl]
    rw [Bool.eq_iff_iff]
    simp only [Bool.and_eq_true, beq_iff_eq, decide_eq_true_eq]
    unfold zHead
    rw [b0, b1]
    omega
  rw [hA, hr]
  by_cases hh : zHead [UInt8.ofNat a, UInt8.ofNat b, 3, 0, 0, 0, 0, 1]
  · rw [if_pos hh, decide_eq_true hh]
    simp only [Res.bind_ok, beq_self_eq_true, cond_true, mortiselaw10_ZlibHeads.j1, mortiselaw10_ZlibHeads.j2]
    rw [live10 _ (by decide)]
    rfl
  · rw [if_neg hh, decide_eq_false hh]
    simp only [Res.bind_ok, show ((3 : Int) == 0) = false from rfl, beq_self_eq_true, cond_true, cond_false, mortiselaw10_ZlibHeads.j1, mortiselaw10_ZlibHeads.j2]
    rw [live10 _ (by decide)]
    rfl
end Go.Pu

