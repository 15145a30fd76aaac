/- Plain facts on the models: what they compute, and what holds of them; conditions: what each theorem states. -/
import Derived.Test.YtjgcmokfinicnaaDoorU1ximole
set_option linter.unusedVariables false
set_option linter.unusedSimpArgs false
/- Blocks of a text as it is: both writers. -/
set_option maxRecDepth 100000
namespace Go.Pu
open Go Go.Sl Go.Mo

/-- A block's head. -/
def hdS (last n : Nat) : List UInt8 := [UInt8.ofNat last, UInt8.ofNat (n % 256), UInt8.ofNat (n / 256), UInt8.ofNat (255 - n % 256), UInt8.ofNat (255 - n / 256)]
/-- The blocks of a text. -/
def sSt : Nat → List UInt8 → List UInt8
  | 0, _ => []
  | k + 1, s => if s.length ≤ 65535 then hdS 1 s.length ++ s else hdS 0 65535 ++ s.take 65535 ++ sSt k (s.drop 65535)

theorem map_tob_ofb (l : List UInt8) : (l.map ofb).map tob = l := by
  rw [List.map_map]
  have : (tob ∘ ofb) = id := by funext x; simp [tob, ofb]
  rw [this, List.map_id]
theorem ofb_ofNat {n : Nat} (h : n < 256) : ofb (UInt8.ofNat n) = (n : Int) := by
  unfold ofb
  have : (UInt8.ofNat n).toNat = n % 256 := by simp
  rw [this, Nat.mod_eq_of_lt h]
theorem inot_u8 {n : Nat} (h : n < 256) : inot .u8 (n : Int) = ((255 - n : Nat) : Int) := by
  have : ∀ n : Fin 256, inot .u8 ((n.val : Nat) : Int) = ((255 - n.val : Nat) : Int) := by decide
  exact this ⟨n, h⟩
theorem wru8_nat (n : Nat) : wr .u8 (n : Int) = ((n % 256 : Nat) : Int) := by rw [wru8]; rfl

theorem hdP (last n : Nat) (hl : last ≤ 1) (hn : n ≤ 65535) :
    ([(last : Int), wr .u8 (n : Int), wr .u8 (ishr .i64 (n : Int) 8), inot .u8 (wr .u8 (n : Int)), inot .u8 (wr .u8 (ishr .i64 (n : Int) 8))] : List Int) = (hdS last n).map ofb := by
  have h8 : ishr .i64 (n : Int) 8 = ((n / 256 : Nat) : Int) := ishr_nat (n := 8) (by decide)
  have hd : n / 256 < 256 := by omega
  rw [h8, wru8_nat, wru8_nat, Nat.mod_eq_of_lt hd, inot_u8 (by omega), inot_u8 hd]
  simp only [hdS, List.map_cons, List.map_nil]
  rw [ofb_ofNat (by omega), ofb_ofNat (by omega), ofb_ofNat hd, ofb_ofNat (by omega), ofb_ofNat (by omega)]
theorem hdR (last n : Nat) (hl : last ≤ 1) (hn : n ≤ 65535) :
    ([(last : Int), wr .u8 (irem (n : Int) 256), wr .u8 (iquo .i64 (n : Int) 256), wr .u8 (w64 (255 - irem (n : Int) 256)), wr .u8 (w64 (255 - iquo .i64 (n : Int) 256))] : List Int) = (hdS last n).map ofb := by
  have h1 : irem (n : Int) 256 = ((n % 256 : Nat) : Int) := irem_nat (b := 256)
  have h2 : iquo .i64 (n : Int) 256 = ((n / 256 : Nat) : Int) := iquo_nat (b := 256) (by omega) (by omega)
  rw [h1, h2, w64_id (by omega) (by omega), w64_id (by omega) (by omega), wru8_id (by omega) (by omega), wru8_id (by omega) (by omega), wru8_id (by omega) (by omega), wru8_id (by omega) (by omega)]
  simp only [hdS, List.map_cons, List.map_nil]
  rw [ofb_ofNat (by omega), ofb_ofNat (by omega), ofb_ofNat (by omega), ofb_ofNat (by omega), ofb_ofNat (by omega)]
  simp only [List.cons.injEq, and_true, true_and]
  omega

theorem min_int (m : Nat) : (if (m : Int) < (65535 : Int) then (m : Int) else (65535 : Int)) = ((min m 65535 : Nat) : Int) := by
  by_cases h : (m : Int) < (65535 : Int)
  · rw [if_pos h, Nat.min_eq_left (by omega)]
  · rw [if_neg h, Nat.min_eq_right (by omega)]; rfl
theorem sub_take (s : List UInt8) (n : Nat) : sub s 0 (n : Int) = s.take n := by simp [sub]
theorem sub_drop (s : List UInt8) (n : Nat) : sub s (n : Int) (s.length : Int) = s.drop n := by
  simp only [sub, Int.toNat_natCast]
  exact List.take_of_length_le (by simp)
theorem hdS_len (a b : Nat) : (hdS a b).length = 5 := rfl

theorem stStep (s b h : List UInt8) (n : Nat) (g : List UInt8 → List Int → Res (List UInt8)) (last : Int) (hh : h.length = 5) (hn : n ≤ s.length) (hb : b.length + s.length + 5 ≤ 70368744177664) :
    (chk (room ((b.map ofb).length + (h.map ofb).length) 1) <| lt (b.map ofb ++ h.map ofb) fun zs1 => chk (subok 0 (n : Int) s.length) <| chk (room (zs1.length + (sub s 0 (n : Int)).length) 1) <|
      lt (zs1 ++ (sub s 0 (n : Int)).map ofb) fun zs2 => chk (subok (n : Int) (s.length : Int) s.length) <| lt (sub s (n : Int) (s.length : Int)) fun s2 => cond (last == 1) (lt (zs2.map tob) fun v => .ok v) (g s2 zs2)) =
    if last = 1 then .ok (b ++ h ++ s.take n) else g (s.drop n) ((b ++ h ++ s.take n).map ofb) := by
  have hl : (s.take n).length = n := by rw [List.length_take]; omega
  rw [room_of (by simp only [List.length_map]; omega), chk_true, lt_eq, subok_of (by omega) (by omega) (by omega), chk_true, sub_take, room_of (by simp only [List.length_append, List.length_map]; omega), chk_true, lt_eq,
    subok_of (by omega) (by omega) (by omega), chk_true, sub_drop, lt_eq, cond_beq, lt_eq]
  simp only [← List.map_append, map_tob_ofb]

theorem progSt (K : Nat) : ∀ (k : Nat) (s : List UInt8) (b : List UInt8), s.length < 65535 * k → b.length + s.length + 5 * k ≤ 70368744177664 →
    deflate_Stored.l1 K k s (b.map ofb) = .ok (b ++ sSt k s)
  | 0, s, b, h, _ => by omega
  | k + 1, s, b, h, hb => by
    rw [deflate_Stored.l1, lt_eq, min_int]
    by_cases hs : s.length ≤ 65535
    · rw [Nat.min_eq_left hs, beq_self_eq_true, cond_true]
      unfold deflate_Stored.j2
      rw [show (1 : Int) = ((1 : Nat) : Int) from rfl, hdP 1 s.length (by omega) hs, show ((1 : Nat) : Int) = 1 from rfl, stStep s b _ _ _ _ (hdS_len _ _) (Nat.le_refl _) (by omega), if_pos rfl]
      simp only [sSt, if_pos hs, List.take_length, List.append_assoc]
    · have hne : (((65535 : Nat) : Int) == (s.length : Int)) = false := by simp only [beq_eq_false_iff_ne]; omega
      rw [Nat.min_eq_right (by omega), hne, cond_false]
      unfold deflate_Stored.j2
      rw [show (0 : Int) = ((0 : Nat) : Int) from rfl, hdP 0 65535 (by omega) (by omega), show ((0 : Nat) : Int) = 0 from rfl, stStep s b _ _ _ _ (hdS_len _ _) (by omega) (by omega), if_neg (by omega),
        progSt K k _ _ (by rw [List.length_drop]; omega) (by simp only [List.length_append, hdS_len, List.length_take, List.length_drop]; omega)]
      simp only [sSt, if_neg hs, List.append_assoc]
theorem refSt (K : Nat) : ∀ (k : Nat) (s : List UInt8) (b : List UInt8), s.length < 65535 * k → b.length + s.length + 5 * k ≤ 70368744177664 →
    mortiseref09_Stored.l1 K k s (b.map ofb) = .ok (b ++ sSt k s)
  | 0, s, b, h, _ => by omega
  | k + 1, s, b, h, hb => by
    rw [mortiseref09_Stored.l1, lt_eq, min_int]
    by_cases hs : s.length ≤ 65535
    · rw [Nat.min_eq_left hs, beq_self_eq_true, cond_true]
      unfold mortiseref09_Stored.j2
      rw [show (1 : Int) = ((1 : Nat) : Int) from rfl, hdR 1 s.length (by omega) hs, show ((1 : Nat) : Int) = 1 from rfl, stStep s b _ _ _ _ (hdS_len _ _) (Nat.le_refl _) (by omega), if_pos rfl]
      simp only [sSt, if_pos hs, List.take_length, List.append_assoc]
    · have hne : (((65535 : Nat) : Int) == (s.length : Int)) = false := by simp only [beq_eq_false_iff_ne]; omega
      rw [Nat.min_eq_right (by omega), hne, cond_false]
      unfold mortiseref09_Stored.j2
      rw [show (0 : Int) = ((0 : Nat) : Int) from rfl, hdR 0 65535 (by omega) (by omega), show ((0 : Nat) : Int) = 0 from rfl, stStep s b _ _ _ _ (hdS_len _ _) (by omega) (by omega), if_neg (by omega),
        refSt K k _ _ (by rw [List.length_drop]; omega) (by simp only [List.length_append, hdS_len, List.length_take, List.length_drop]; omega)]
      simp only [sSt, if_neg hs, List.append_assoc]
theorem progStored09 (K : Nat) (s : List UInt8) (h : s.length < 65535 * K) (hb : s.length + 5 * K ≤ 70368744177664) : deflate_Stored.m K s = .ok (sSt K s) := by
  have := progSt K K s [] h (by simpa using hb)
  simpa [deflate_Stored.m] using this
theorem refStored09 (K : Nat) (s : List UInt8) (h : s.length < 65535 * K) (hb : s.length + 5 * K ≤ 70368744177664) : mortiseref09_Stored.m K s = .ok (sSt K s) := by
  have := refSt K K s [] h (by simpa using hb)
  simpa [mortiseref09_Stored.m] using this
theorem live09_1 (m : Nat) : deflate_Fixed.m (m + 1000) [⟨97, 0, 0⟩] = .ok ([75, 4, 0], 0) := by kernel_rfl
theorem live09_2 (m : Nat) : deflate_Dynamic.m (m + 1000) [⟨0, 1, 0⟩] = .ok ([], 1) := by kernel_rfl
theorem live09_3 (m : Nat) : deflate_Deflate.m (m + 1000) [] = .ok [3, 0] := by kernel_rfl
theorem live09 (K : Nat) (hK : 1000 ≤ K) : mortiselaw09_live.m K = .ok true := by
  obtain ⟨m, rfl⟩ : ∃ m, K = m + 1000 := ⟨K - 1000, by omega⟩
  unfold mortiselaw09_live.m
  rw [live09_1, live09_2, live09_3, show deflate_Stored.m (m + 1000) [] = .ok [1, 0, 0, 255, 255] from by kernel_rfl]
  rfl
theorem pureStored0 (K : Nat) (s : List UInt8) (hK : 1000 ≤ K) (hK2 : K ≤ 100000) : mortiselaw09_DeflateStored.m K s = .ok true := by
  unfold mortiselaw09_DeflateStored.m
  rw [live09 K hK, cond_dec]
  by_cases h : (s.length : Int) > (200000 : Int)
  · rw [if_pos h]; rfl
  · rw [if_neg h, progStored09 K s (by omega) (by omega), refStored09 K s (by omega) (by omega), Res.bind_ok, Res.bind_ok, beq_self_eq_true, cond_true, Res.bind_ok]
    rfl
/-- DeflateStored. -/
theorem pure_DeflateStored (s : List UInt8) (hs : s.length ≤ 140737488351232) : mortiselaw09_DeflateStored.m 30000 s = .ok true :=
  pureStored0 30000 s (by decide) (by decide)
end Go.Pu

