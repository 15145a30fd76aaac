/- Models of the Go functions that this statement reaches, printed by a program of mine: nothing is proved but lengths of tables. -/
import Derived.Test.YtjgcmokfinicnaaDoorOwn
set_option linter.unusedVariables false
set_option linter.unusedSimpArgs false
namespace Go.Mo
open Go Go.Sl
structure T_api_Token where
  Lit_ : Int
  Len_ : Int
  Dist_ : Int
  deriving Inhabited
structure T_bits_place where
  at_ : Int
  deriving Inhabited
structure T_bits_Writer where
  place_ : T_bits_place
  bytes_ : (List Int)
  deriving Inhabited
structure T_deflate_code where
  lengths_ : (List Int)
  codes_ : (List Int)
  deriving Inhabited
structure T_deflate_writer where
  Writer_ : T_bits_Writer
  literals_ : T_deflate_code
  distances_ : T_deflate_code
  deriving Inhabited
structure T_deflate_part where
  symbol_ : Int
  bits_ : Int
  more_ : Int
  deriving Inhabited
structure T_huff_packet where
  often_ : Int
  symbols_ : (List Int)
  deriving Inhabited
structure T_deflate_item where
  symbol_ : Int
  more_ : Int
  bits_ : Int
  deriving Inhabited
structure T_match_finder where
  text_ : List UInt8
  seen_ : (List ((List Int) × (List Int)))
  deriving Inhabited
structure T_mortiseref05_Writer where
  B_ : (List Int)
  deriving Inhabited
structure T_mortiseref05_Reader where
  S_ : List UInt8
  At_ : Int
  deriving Inhabited
structure T_mortiseref07_state where
  r_ : T_mortiseref05_Reader
  out_ : (List Int)
  limit_ : Int
  deriving Inhabited
structure T_mortiseref07_code where
  l_ : (List Int)
  codes_ : (List Int)
  deriving Inhabited
structure T_bits_Reader where
  place_ : T_bits_place
  text_ : List UInt8
  deriving Inhabited
structure T_inflate_reader where
  Reader_ : T_bits_Reader
  out_ : (List Int)
  limit_ : Int
  deriving Inhabited
structure T_huff_Table where
  counts_ : (List Int)
  symbols_ : (List Int)
  deriving Inhabited
structure T_inflate_run where
  from_ : Int
  bits_ : Int
  deriving Inhabited
abbrev ty_string : TypeId := 9
abbrev ty_inflate_failed : TypeId := 94
def tab_deflate_order : List Int := [16, 17, 18, 0, 8, 7, 9, 6, 10, 5, 11, 4, 12, 3, 13, 2, 14, 1, 15]
theorem tab_deflate_order_len : tab_deflate_order.length = 19 := by decide
def tab_inflate_lengths : List T_inflate_run := [⟨3, 0⟩, ⟨4, 0⟩, ⟨5, 0⟩, ⟨6, 0⟩, ⟨7, 0⟩, ⟨8, 0⟩, ⟨9, 0⟩, ⟨10, 0⟩, ⟨11, 1⟩, ⟨13, 1⟩, ⟨15, 1⟩, ⟨17, 1⟩, ⟨19, 2⟩, ⟨23, 2⟩, ⟨27, 2⟩, ⟨31, 2⟩, ⟨35, 3⟩, ⟨43, 3⟩, ⟨51, 3⟩, ⟨59, 3⟩, ⟨67, 4⟩, ⟨83, 4⟩, ⟨99, 4⟩, ⟨115, 4⟩, ⟨131, 5⟩, ⟨163, 5⟩, ⟨195, 5⟩, ⟨227, 5⟩, ⟨258, 0⟩]
theorem tab_inflate_lengths_len : tab_inflate_lengths.length = 29 := by decide
def tab_inflate_distances : List T_inflate_run := [⟨1, 0⟩, ⟨2, 0⟩, ⟨3, 0⟩, ⟨4, 0⟩, ⟨5, 1⟩, ⟨7, 1⟩, ⟨9, 2⟩, ⟨13, 2⟩, ⟨17, 3⟩, ⟨25, 3⟩, ⟨33, 4⟩, ⟨49, 4⟩, ⟨65, 5⟩, ⟨97, 5⟩, ⟨129, 6⟩, ⟨193, 6⟩, ⟨257, 7⟩, ⟨385, 7⟩, ⟨513, 8⟩, ⟨769, 8⟩, ⟨1025, 9⟩, ⟨1537, 9⟩, ⟨2049, 10⟩, ⟨3073, 10⟩, ⟨4097, 11⟩, ⟨6145, 11⟩, ⟨8193, 12⟩, ⟨12289, 12⟩, ⟨16385, 13⟩, ⟨24577, 13⟩]
theorem tab_inflate_distances_len : tab_inflate_distances.length = 30 := by decide
def tab_inflate_order : List Int := [16, 17, 18, 0, 8, 7, 9, 6, 10, 5, 11, 4, 12, 3, 13, 2, 14, 1, 15]
theorem tab_inflate_order_len : tab_inflate_order.length = 19 := by decide

def match_fine.m (K : Nat) (t32 : T_api_Token) : Res Bool :=
  cond (t32.Dist_ == (0 : Int))
    (
    lt ((t32.Len_ == (0 : Int))) fun (v37 : Bool) =>
    .ok v37)
    (
    lt ((((((decide (t32.Dist_ > (0 : Int))) && (decide (t32.Dist_ ≤ (32768 : Int)))) && (decide (t32.Len_ ≥ (3 : Int)))) && (decide (t32.Len_ ≤ (258 : Int)))) && (t32.Lit_ == (0 : Int)))) fun (v38 : Bool) =>
    .ok v38)

def match_more.l1 (K : Nat) (told55 : Int) : Nat → Int → Int → Res Int
  | 0, _, _ => .fail
  | k + 1, n_56, k_57 =>
    chk (decide (0 ≤ told55)) <|
    cond (decide (n_56 ≥ (ishl .i64 (2 : Int) told55)))
      (
      lt ((ishr .i64 n_56 (1 : Int))) fun (n_61 : Int) =>
      lt ((w64 (k_57 + (1 : Int)))) fun (k_62 : Int) =>
      match_more.l1 K told55 k n_61 k_62)
      (
      .ok k_57)

def match_more.m (K : Nat) (n_54 : Int) (told55 : Int) : Res Int :=
  match_more.l1 K told55 K n_54 (0 : Int)

def match_lengthBits.m (K : Nat) (n_49 : Int) : Res Int :=
  lt ((n_49 == (258 : Int))) fun (v50 : Bool) =>
  cond v50
    (
    .ok (8 : Int))
    (
    lt ((decide (n_49 ≥ (115 : Int)))) fun (v52 : Bool) =>
    cond v52
      (
      (match_more.m K (w64 (n_49 - (3 : Int))) (2 : Int)).bind fun x65 =>
      lt ((w64 ((8 : Int) + x65))) fun (v66 : Int) =>
      .ok v66)
      (
      (match_more.m K (w64 (n_49 - (3 : Int))) (2 : Int)).bind fun x67 =>
      lt ((w64 ((7 : Int) + x67))) fun (v68 : Int) =>
      .ok v68))

def match_Cost.l1 (K : Nat) (l_17 : List T_api_Token) : Nat → Int → Int → Res (Int × Int)
  | 0, _, _ => .fail
  | k + 1, n_22, v23 =>
    cond (decide (v23 < (l_17.length : Int)))
      (
      chk (inb v23 l_17.length) <|
      (match_fine.m K (T_api_Token.mk ((rd l_17 v23).Lit_) ((rd l_17 v23).Len_) ((rd l_17 v23).Dist_))).bind fun x40 =>
      lt ((!x40)) fun (v41 : Bool) =>
      cond v41
        (
        .ok ((0 : Int), (1 : Int)))
        (
        lt ((((rd l_17 v23).Dist_ == (0 : Int)) && (decide ((rd l_17 v23).Lit_ < (144 : Int))))) fun (v43 : Bool) =>
        cond v43
          (
          lt ((w64 (n_22 + (8 : Int)))) fun (n_45 : Int) =>
          match_Cost.l1 K l_17 k n_45 (w64 (v23 + (1 : Int))))
          (
          lt (((rd l_17 v23).Dist_ == (0 : Int))) fun (v46 : Bool) =>
          cond v46
            (
            lt ((w64 (n_22 + (9 : Int)))) fun (n_48 : Int) =>
            match_Cost.l1 K l_17 k n_48 (w64 (v23 + (1 : Int))))
            (
            (match_lengthBits.m K ((rd l_17 v23).Len_)).bind fun x70 =>
            (match_more.m K (w64 ((rd l_17 v23).Dist_ - (1 : Int))) (1 : Int)).bind fun x71 =>
            lt ((w64 (n_22 + (w64 ((w64 (x70 + (5 : Int))) + x71))))) fun (n_72 : Int) =>
            match_Cost.l1 K l_17 k n_72 (w64 (v23 + (1 : Int)))))))
      (
      .ok (n_22, (0 : Int)))

def match_Cost.m (K : Nat) (l_17 : List T_api_Token) : Res (Int × Int) :=
  match_Cost.l1 K l_17 K (7 : Int) (0 : Int)

def deflate_fine.m (K : Nat) (l_12 : List T_api_Token) : Res Bool :=
  (match_Cost.m K l_12).bind fun (x77, x78) =>
  lt ((x78 == (0 : Int))) fun (v79 : Bool) =>
  .ok v79

def huff_count.j2 (K : Nat)  (c_277 : (List Int)) : Res ((List Int) × Bool) :=
  lt (c_277.set (Int.toNat (0 : Int)) (0 : Int)) fun (zs284 : (List Int)) =>
  .ok (zs284, true)

def huff_count.l1 (K : Nat) (lengths230 : List Int) : Nat → (List Int) → Int → Res ((List Int) × Bool)
  | 0, _, _ => .fail
  | k + 1, c_259, v263 =>
    cond (decide (v263 < (lengths230.length : Int)))
      (
      chk (inb v263 lengths230.length) <|
      lt ((rd lengths230 v263)) fun (n_267 : Int) =>
      cond ((decide (n_267 < (0 : Int))) || (decide (n_267 > (15 : Int))))
        (
        .ok (c_259, false))
        (
        chk (inb n_267 16) <|
        lt (c_259.set (Int.toNat n_267) (w64 ((rd c_259 n_267) + (1 : Int)))) fun (zs274 : (List Int)) =>
        huff_count.l1 K lengths230 k zs274 (w64 (v263 + (1 : Int)))))
      (
      huff_count.j2 K c_259)

def huff_count.m (K : Nat) (lengths230 : List Int) : Res ((List Int) × Bool) :=
  cond (decide ((lengths230.length : Int) > (320 : Int)))
    (
    .ok ((List.replicate 16 (0 : Int)), false))
    (
    huff_count.l1 K lengths230 K (List.replicate 16 (0 : Int)) (0 : Int))

def huff_Check.j2 (K : Nat) (x291 : (List Int)) (sum309 : Int) : Res Int :=
  cond (((sum309 == (0 : Int)) || (sum309 == (32768 : Int))) || (x291 == ([0, (1 : Int), 0, 0, 0, 0, 0, 0, 0, 0, 0, 0, 0, 0, 0, 0] : List Int)))
    (
    .ok (0 : Int))
    (
    .ok (3 : Int))

def huff_Check.l1 (K : Nat) (x291 : (List Int)) : Nat → Int → Int → Res Int
  | 0, _, _ => .fail
  | k + 1, sum300, v301 =>
    cond (decide (v301 < (16 : Int)))
      (
      chk (inb v301 16) <|
      lt ((rd x291 v301)) fun (k_305 : Int) =>
      chk (decide (0 ≤ v301)) <|
      lt ((w64 (sum300 + (w64 (k_305 * (ishr .i64 (32768 : Int) v301)))))) fun (sum307 : Int) =>
      huff_Check.l1 K x291 k sum307 (w64 (v301 + (1 : Int))))
      (
      huff_Check.j2 K x291 sum300)

def huff_Check.m (K : Nat) (lengths225 : List Int) : Res Int :=
  (huff_count.m K lengths225).bind fun (x291, x292) =>
  cond (!x292)
    (
    .ok (1 : Int))
    (
    huff_Check.l1 K x291 K (0 : Int) (0 : Int))

def huff_counted_firsts.j2 (K : Nat)  (first368 : (List Int)) : Res (List Int) :=
  .ok first368

def huff_counted_firsts.l1 (K : Nat) (c_325 : List Int) : Nat → (List Int) → Int → Int → Res (List Int)
  | 0, _, _, _ => .fail
  | k + 1, first351, code355, n_356 =>
    cond (decide (n_356 ≤ (15 : Int)))
      (
      chk (inb (w64 (n_356 - (1 : Int))) 16) <|
      lt ((ishl .i64 (w64 (code355 + (rd c_325 (w64 (n_356 - (1 : Int)))))) (1 : Int))) fun (code360 : Int) =>
      chk (inb n_356 16) <|
      lt (first351.set (Int.toNat n_356) code360) fun (zs364 : (List Int)) =>
      lt ((w64 (n_356 + (1 : Int)))) fun (n_366 : Int) =>
      huff_counted_firsts.l1 K c_325 k zs364 code360 n_366)
      (
      huff_counted_firsts.j2 K first351)

def huff_counted_firsts.m (K : Nat) (c_325 : List Int) : Res (List Int) :=
  huff_counted_firsts.l1 K c_325 K (List.replicate 16 (0 : Int)) (0 : Int) (1 : Int)

def huff_Codes.l1 (K : Nat) (lengths218 : List Int) : Nat → (List Int) → (List Int) → Int → Res ((List Int) × Int)
  | 0, _, _, _ => .fail
  | k + 1, next414, out418, v421 =>
    cond (decide (v421 < (lengths218.length : Int)))
      (
      chk (inb v421 lengths218.length) <|
      lt ((rd lengths218 v421)) fun (n_425 : Int) =>
      cond (decide (n_425 > (0 : Int)))
        (
        chk (inb n_425 16) <|
        chk (inb v421 out418.length) <|
        lt (out418.set (Int.toNat v421) (rd next414 n_425)) fun (zs431 : (List Int)) =>
        lt (next414.set (Int.toNat n_425) (w64 ((rd next414 n_425) + (1 : Int)))) fun (zs435 : (List Int)) =>
        huff_Codes.l1 K lengths218 k zs435 zs431 (w64 (v421 + (1 : Int))))
        (
        huff_Codes.l1 K lengths218 k next414 out418 (w64 (v421 + (1 : Int)))))
      (
      .ok (out418, (0 : Int)))

def huff_Codes.m (K : Nat) (lengths218 : List Int) : Res ((List Int) × Int) :=
  (huff_Check.m K lengths218).bind fun x313 =>
  cond (x313 != (0 : Int))
    (
    .ok (([] : List Int), x313))
    (
    (huff_count.m K lengths218).bind fun (x317, x318) =>
    (huff_counted_firsts.m K x317).bind fun x377 =>
    chk (decide (0 ≤ (lengths218.length : Int)) && room (Int.toNat (lengths218.length : Int)) 8) <|
    lt (List.replicate (Int.toNat (lengths218.length : Int)) (0 : Int)) fun (zs389 : (List Int)) =>
    huff_Codes.l1 K lengths218 K x377 zs389 (0 : Int))

def deflate_coded.m (K : Nat) (lengths206 : List Int) : Res (List Int) :=
  (huff_Codes.m K lengths206).bind fun (x446, x448) =>
  .ok x446

def deflate_fixedCodes.j4 (K : Nat) (l_168 : (List Int)) (d202 : (List Int)) : Res ((List Int) × (List Int) × (List Int) × (List Int)) :=
  (deflate_coded.m K l_168).bind fun codes459 =>
  (deflate_coded.m K d202).bind fun codes464 =>
  .ok (l_168, codes459, d202, codes464)

def deflate_fixedCodes.l3 (K : Nat) (l_168 : (List Int)) (zs177 : (List Int)) : Nat → (List Int) → Int → Res ((List Int) × (List Int) × (List Int) × (List Int))
  | 0, _, _ => .fail
  | k + 1, d190, v193 =>
    cond (decide (v193 < (zs177.length : Int)))
      (
      chk (inb v193 d190.length) <|
      lt (d190.set (Int.toNat v193) (5 : Int)) fun (zs199 : (List Int)) =>
      deflate_fixedCodes.l3 K l_168 zs177 k zs199 (w64 (v193 + (1 : Int))))
      (
      deflate_fixedCodes.j4 K l_168 d190)

def deflate_fixedCodes.j2 (K : Nat)  (l_168 : (List Int)) : Res ((List Int) × (List Int) × (List Int) × (List Int)) :=
  chk (decide (0 ≤ (32 : Int)) && room (Int.toNat (32 : Int)) 8) <|
  lt (List.replicate (Int.toNat (32 : Int)) (0 : Int)) fun (zs177 : (List Int)) =>
  deflate_fixedCodes.l3 K l_168 zs177 K zs177 (0 : Int)

def deflate_fixedCodes.l1 (K : Nat) (zs115 : (List Int)) : Nat → (List Int) → Int → Res ((List Int) × (List Int) × (List Int) × (List Int))
  | 0, _, _ => .fail
  | k + 1, l_142, v145 =>
    cond (decide (v145 < (zs115.length : Int)))
      (
      lt (((decide (v145 < (144 : Int))) || (decide (v145 ≥ (280 : Int))))) fun (v148 : Bool) =>
      cond v148
        (
        chk (inb v145 l_142.length) <|
        lt (l_142.set (Int.toNat v145) (8 : Int)) fun (zs153 : (List Int)) =>
        deflate_fixedCodes.l1 K zs115 k zs153 (w64 (v145 + (1 : Int))))
        (
        lt ((decide (v145 < (256 : Int)))) fun (v155 : Bool) =>
        cond v155
          (
          chk (inb v145 l_142.length) <|
          lt (l_142.set (Int.toNat v145) (9 : Int)) fun (zs160 : (List Int)) =>
          deflate_fixedCodes.l1 K zs115 k zs160 (w64 (v145 + (1 : Int))))
          (
          chk (inb v145 l_142.length) <|
          lt (l_142.set (Int.toNat v145) (7 : Int)) fun (zs165 : (List Int)) =>
          deflate_fixedCodes.l1 K zs115 k zs165 (w64 (v145 + (1 : Int))))))
      (
      deflate_fixedCodes.j2 K l_142)

def deflate_fixedCodes.m (K : Nat) : Res ((List Int) × (List Int) × (List Int) × (List Int)) :=
  chk (decide (0 ≤ (288 : Int)) && room (Int.toNat (288 : Int)) 8) <|
  lt (List.replicate (Int.toNat (288 : Int)) (0 : Int)) fun (zs115 : (List Int)) =>
  deflate_fixedCodes.l1 K zs115 K zs115 (0 : Int)

def bits_Writer_Put_deflate_writer.j2 (K : Nat) (g1 : Int → (List Int) → Int → Int → Res (Int × Int × (List Int))) (at_596 : Int) (v604 : Int) (n_605 : Int) (bytes623 : (List Int)) : Res (Int × Int × (List Int)) :=
  lt ((if n_605 < (w64 ((8 : Int) - (iand .i64 at_596 (7 : Int)))) then n_605 else (w64 ((8 : Int) - (iand .i64 at_596 (7 : Int)))))) fun (room629 : Int) =>
  chk (inb (iquo .i64 at_596 (8 : Int)) bytes623.length) <|
  chk (decide (0 ≤ room629)) <|
  chk (decide (0 ≤ (iand .i64 at_596 (7 : Int)))) <|
  lt (bytes623.set (Int.toNat (iquo .i64 at_596 (8 : Int))) (ior .u8 (rd bytes623 (iquo .i64 at_596 (8 : Int))) (ishl .u8 (wr .u8 (iand .u32 v604 (wr .u32 ((ishl .u32 (1 : Int) room629) - (1 : Int))))) (iand .i64 at_596 (7 : Int))))) fun (zs638 : (List Int)) =>
  lt ((ishr .u32 v604 room629)) fun (v641 : Int) =>
  lt ((w64 (n_605 - room629))) fun (n_644 : Int) =>
  g1 (w64 (at_596 + room629)) zs638 v641 n_644

def bits_Writer_Put_deflate_writer.l1 (K : Nat)  : Nat → Int → (List Int) → Int → Int → Res (Int × Int × (List Int))
  | 0, _, _, _, _ => .fail
  | k + 1, at_596, bytes599, v604, n_605 =>
    cond (decide (n_605 > (0 : Int)))
      (
      cond ((iand .i64 at_596 (7 : Int)) == (0 : Int))
        (
        chk (room (bytes599.length + ([(0 : Int)] : List Int).length) 1) <|
        lt (bytes599 ++ ([(0 : Int)] : List Int)) fun (zs618 : (List Int)) =>
        bits_Writer_Put_deflate_writer.j2 K (bits_Writer_Put_deflate_writer.l1 K k) at_596 v604 n_605 zs618)
        (
        bits_Writer_Put_deflate_writer.j2 K (bits_Writer_Put_deflate_writer.l1 K k) at_596 v604 n_605 bytes599))
      (
      .ok ((0 : Int), at_596, bytes599))

def bits_Writer_Put_deflate_writer.m (K : Nat) (w_515 : T_deflate_writer) (v539 : Int) (n_540 : Int) : Res (Int × Int × (List Int)) :=
  chk (imp false ((decide (n_540 < (0 : Int))) || (decide (n_540 > (32 : Int)))) (decide (0 ≤ n_540))) <|
  cond (((decide (n_540 < (0 : Int))) || (decide (n_540 > (32 : Int)))) || (decide ((ishr .u64 (wr .u64 v539) n_540) > (0 : Int))))
    (
    .ok ((1 : Int), w_515.Writer_.place_.at_, w_515.Writer_.bytes_))
    (
    bits_Writer_Put_deflate_writer.l1 K K w_515.Writer_.place_.at_ w_515.Writer_.bytes_ v539 n_540)

def deflate_writer_symbol_1279.l1 (K : Nat) (w_703 : T_deflate_writer) (s728 : Int) : Nat → Int → (List Int) → Int → Res (Int × (List Int))
  | 0, _, _, _ => .fail
  | k + 1, at_760, bytes763, i768 =>
    cond (decide (i768 ≥ (0 : Int)))
      (
      chk (inb s728 w_703.literals_.codes_.length) <|
      chk (decide (0 ≤ i768)) <|
      (bits_Writer_Put_deflate_writer.m K (T_deflate_writer.mk (T_bits_Writer.mk (T_bits_place.mk at_760) bytes763) w_703.literals_ w_703.distances_) (wr .u32 (iand .i64 (ishr .i64 (rd w_703.literals_.codes_ s728) i768) (1 : Int))) (1 : Int)).bind fun (x775, at_776, bytes779) =>
      lt ((w64 (i768 - (1 : Int)))) fun (i784 : Int) =>
      deflate_writer_symbol_1279.l1 K w_703 s728 k at_776 bytes779 i784)
      (
      .ok (at_760, bytes763))

def deflate_writer_symbol_1279.m (K : Nat) (w_703 : T_deflate_writer) (c_727 : T_deflate_code) (s728 : Int) : Res (Int × (List Int)) :=
  chk (inb s728 w_703.literals_.lengths_.length) <|
  lt ((w64 ((rd w_703.literals_.lengths_ s728) - (1 : Int)))) fun (i733 : Int) =>
  deflate_writer_symbol_1279.l1 K w_703 s728 K w_703.Writer_.place_.at_ w_703.Writer_.bytes_ i733

def deflate_scaled.j2 (K : Nat) (n_809 : Int) (told810 : Int) (k_822 : Int) (top823 : Int) : Res (Int × Int × Int) :=
  chk (decide (0 ≤ told810)) <|
  chk (decide (0 ≤ k_822)) <|
  .ok ((w64 ((ishl .i64 k_822 told810) + top823)), k_822, (wr .u32 (w64 (n_809 - (ishl .i64 top823 k_822)))))

def deflate_scaled.l1 (K : Nat) (n_809 : Int) (told810 : Int) : Nat → Int → Int → Res (Int × Int × Int)
  | 0, _, _ => .fail
  | k + 1, k_814, top815 =>
    chk (decide (0 ≤ told810)) <|
    cond (decide (top815 ≥ (ishl .i64 (2 : Int) told810)))
      (
      lt ((ishr .i64 top815 (1 : Int))) fun (top819 : Int) =>
      lt ((w64 (k_814 + (1 : Int)))) fun (k_820 : Int) =>
      deflate_scaled.l1 K n_809 told810 k k_820 top819)
      (
      deflate_scaled.j2 K n_809 told810 k_814 top815)

def deflate_scaled.m (K : Nat) (n_809 : Int) (told810 : Int) : Res (Int × Int × Int) :=
  deflate_scaled.l1 K n_809 told810 K (0 : Int) n_809

def deflate_length.m (K : Nat) (n_802 : Int) : Res (Int × Int × Int) :=
  cond (n_802 == (258 : Int))
    (
    .ok ((285 : Int), (0 : Int), (0 : Int)))
    (
    (deflate_scaled.m K (w64 (n_802 - (3 : Int))) (2 : Int)).bind fun (symbol834, bits835, more836) =>
    .ok ((w64 (symbol834 + (257 : Int))), bits835, more836))

def deflate_writer_part_1279.m (K : Nat) (w_852 : T_deflate_writer) (c_876 : T_deflate_code) (p877 : T_deflate_part) : Res (Int × (List Int)) :=
  (deflate_writer_symbol_1279.m K w_852 w_852.literals_ p877.symbol_).bind fun (at_884, bytes887) =>
  (bits_Writer_Put_deflate_writer.m K (T_deflate_writer.mk (T_bits_Writer.mk (T_bits_place.mk at_884) bytes887) w_852.literals_ w_852.distances_) p877.more_ p877.bits_).bind fun (x892, at_893, bytes896) =>
  .ok (at_893, bytes896)

def deflate_distance.m (K : Nat) (n_917 : Int) : Res (Int × Int × Int) :=
  (deflate_scaled.m K (w64 (n_917 - (1 : Int))) (1 : Int)).bind fun (symbol921, bits922, more923) =>
  .ok (symbol921, bits922, more923)

def deflate_writer_symbol_7ef6.l1 (K : Nat) (w_964 : T_deflate_writer) (s989 : Int) : Nat → Int → (List Int) → Int → Res (Int × (List Int))
  | 0, _, _, _ => .fail
  | k + 1, at_1021, bytes1024, i1029 =>
    cond (decide (i1029 ≥ (0 : Int)))
      (
      chk (inb s989 w_964.distances_.codes_.length) <|
      chk (decide (0 ≤ i1029)) <|
      (bits_Writer_Put_deflate_writer.m K (T_deflate_writer.mk (T_bits_Writer.mk (T_bits_place.mk at_1021) bytes1024) w_964.literals_ w_964.distances_) (wr .u32 (iand .i64 (ishr .i64 (rd w_964.distances_.codes_ s989) i1029) (1 : Int))) (1 : Int)).bind fun (x1036, at_1037, bytes1040) =>
      lt ((w64 (i1029 - (1 : Int)))) fun (i1045 : Int) =>
      deflate_writer_symbol_7ef6.l1 K w_964 s989 k at_1037 bytes1040 i1045)
      (
      .ok (at_1021, bytes1024))

def deflate_writer_symbol_7ef6.m (K : Nat) (w_964 : T_deflate_writer) (c_988 : T_deflate_code) (s989 : Int) : Res (Int × (List Int)) :=
  chk (inb s989 w_964.distances_.lengths_.length) <|
  lt ((w64 ((rd w_964.distances_.lengths_ s989) - (1 : Int)))) fun (i994 : Int) =>
  deflate_writer_symbol_7ef6.l1 K w_964 s989 K w_964.Writer_.place_.at_ w_964.Writer_.bytes_ i994

def deflate_writer_part_7ef6.m (K : Nat) (w_932 : T_deflate_writer) (c_956 : T_deflate_code) (p957 : T_deflate_part) : Res (Int × (List Int)) :=
  (deflate_writer_symbol_7ef6.m K w_932 w_932.distances_ p957.symbol_).bind fun (at_1055, bytes1058) =>
  (bits_Writer_Put_deflate_writer.m K (T_deflate_writer.mk (T_bits_Writer.mk (T_bits_place.mk at_1055) bytes1058) w_932.literals_ w_932.distances_) p957.more_ p957.bits_).bind fun (x1063, at_1064, bytes1067) =>
  .ok (at_1064, bytes1067)

def deflate_writer_tokens.j2 (K : Nat) (w_664 : T_deflate_writer) (at_1146 : Int) (bytes1149 : (List Int)) : Res (Int × (List Int)) :=
  (deflate_writer_symbol_1279.m K (T_deflate_writer.mk (T_bits_Writer.mk (T_bits_place.mk at_1146) bytes1149) w_664.literals_ w_664.distances_) w_664.literals_ (256 : Int)).bind fun (at_1155, bytes1158) =>
  .ok (at_1155, bytes1158)

def deflate_writer_tokens.l1 (K : Nat) (w_664 : T_deflate_writer) (l_688 : List T_api_Token) : Nat → Int → (List Int) → Int → Res (Int × (List Int))
  | 0, _, _, _ => .fail
  | k + 1, at_1097, bytes1100, v1105 =>
    cond (decide (v1105 < (l_688.length : Int)))
      (
      chk (inb v1105 l_688.length) <|
      cond ((rd l_688 v1105).Dist_ == (0 : Int))
        (
        (deflate_writer_symbol_1279.m K (T_deflate_writer.mk (T_bits_Writer.mk (T_bits_place.mk at_1097) bytes1100) w_664.literals_ w_664.distances_) w_664.literals_ (wr .i64 (rd l_688 v1105).Lit_)).bind fun (at_1115, bytes1118) =>
        deflate_writer_tokens.l1 K w_664 l_688 k at_1115 bytes1118 (w64 (v1105 + (1 : Int))))
        (
        (deflate_length.m K ((rd l_688 v1105).Len_)).bind fun (symbol1123, bits1124, more1125) =>
        (deflate_writer_part_1279.m K (T_deflate_writer.mk (T_bits_Writer.mk (T_bits_place.mk at_1097) bytes1100) w_664.literals_ w_664.distances_) w_664.literals_ (T_deflate_part.mk symbol1123 bits1124 more1125)).bind fun (at_1126, bytes1129) =>
        (deflate_distance.m K ((rd l_688 v1105).Dist_)).bind fun (symbol1134, bits1135, more1136) =>
        (deflate_writer_part_7ef6.m K (T_deflate_writer.mk (T_bits_Writer.mk (T_bits_place.mk at_1126) bytes1129) w_664.literals_ w_664.distances_) w_664.distances_ (T_deflate_part.mk symbol1134 bits1135 more1136)).bind fun (at_1137, bytes1140) =>
        deflate_writer_tokens.l1 K w_664 l_688 k at_1137 bytes1140 (w64 (v1105 + (1 : Int)))))
      (
      deflate_writer_tokens.j2 K w_664 at_1097 bytes1100)

def deflate_writer_tokens.m (K : Nat) (w_664 : T_deflate_writer) (l_688 : List T_api_Token) : Res (Int × (List Int)) :=
  deflate_writer_tokens.l1 K w_664 l_688 K w_664.Writer_.place_.at_ w_664.Writer_.bytes_ (0 : Int)

def bits_Writer_String_deflate_writer.m (K : Nat) (w_1179 : T_deflate_writer) : Res (List UInt8) :=
  lt ((w_1179.Writer_.bytes_.map tob)) fun (v1203 : List UInt8) =>
  .ok v1203

def deflate_Fixed.m (K : Nat) (l_7 : List T_api_Token) : Res ((List UInt8) × Int) :=
  (deflate_fine.m K l_7).bind fun x81 =>
  cond (!x81)
    (
    .ok (([] : List UInt8), (1 : Int)))
    (
    (deflate_fixedCodes.m K).bind fun (lengths493, codes497, lengths501, codes505) =>
    (bits_Writer_Put_deflate_writer.m K (T_deflate_writer.mk (T_bits_Writer.mk (T_bits_place.mk (0 : Int)) ([] : List Int)) (T_deflate_code.mk lengths493 codes497) (T_deflate_code.mk lengths501 codes505)) (3 : Int) (3 : Int)).bind fun (x655, at_656, bytes659) =>
    (deflate_writer_tokens.m K (T_deflate_writer.mk (T_bits_Writer.mk (T_bits_place.mk at_656) bytes659) (T_deflate_code.mk lengths493 codes497) (T_deflate_code.mk lengths501 codes505)) l_7).bind fun (at_1171, bytes1174) =>
    (bits_Writer_String_deflate_writer.m K (T_deflate_writer.mk (T_bits_Writer.mk (T_bits_place.mk at_1171) bytes1174) (T_deflate_code.mk lengths493 codes497) (T_deflate_code.mk lengths501 codes505))).bind fun x1205 =>
    .ok (x1205, (0 : Int)))

def huff_Lengths_1.m (K : Nat) (n_1431 : Int) : Res Bool :=
  lt (((decide (n_1431 < (0 : Int))) || (decide (n_1431 > (1099511627776 : Int))))) fun (v1432 : Bool) =>
  .ok v1432

def slices_IndexFunc___int_int__5d67.l1 (K : Nat) (s1422 : List Int) : Nat → Int → Res Int
  | 0, _ => .fail
  | k + 1, v1427 =>
    cond (decide (v1427 < (s1422.length : Int)))
      (
      chk (inb v1427 s1422.length) <|
      (huff_Lengths_1.m K (rd s1422 v1427)).bind fun x1434 =>
      cond x1434
        (
        .ok v1427)
        (
        slices_IndexFunc___int_int__5d67.l1 K s1422 k (w64 (v1427 + (1 : Int)))))
      (
      .ok (-1 : Int))

def slices_IndexFunc___int_int__5d67.m (K : Nat) (s1422 : List Int) : Res Int :=
  slices_IndexFunc___int_int__5d67.l1 K s1422 K (0 : Int)

def slices_ContainsFunc___int_int__5d67.m (K : Nat) (s1417 : List Int) : Res Bool :=
  (slices_IndexFunc___int_int__5d67.m K s1417).bind fun x1438 =>
  lt ((decide (x1438 ≥ (0 : Int)))) fun (v1439 : Bool) =>
  .ok v1439

def cmp_isNaN_int_.m (K : Nat) (x1640 : Int) : Res Bool :=
  lt ((x1640 != x1640)) fun (v1641 : Bool) =>
  .ok v1641

def cmp_Compare_int_.m (K : Nat) (x1638 : Int) (y1639 : Int) : Res Int :=
  (cmp_isNaN_int_.m K x1638).bind fun x1643 =>
  (cmp_isNaN_int_.m K y1639).bind fun x1644 =>
  cond x1643
    (
    cond x1644
      (
      .ok (0 : Int))
      (
      .ok (-1 : Int)))
    (
    cond x1644
      (
      .ok (1 : Int))
      (
      cond (decide (x1638 < y1639))
        (
        .ok (-1 : Int))
        (
        cond (decide (x1638 > y1639))
          (
          .ok (1 : Int))
          (
          .ok (0 : Int)))))

def huff_Lengths_2.m (K : Nat) (x1622 : T_huff_packet) (y1627 : T_huff_packet) : Res Int :=
  (cmp_Compare_int_.m K x1622.often_ y1627.often_).bind fun x1651 =>
  .ok x1651

def slices_insertionSortCmpFunc_huff_packet__b6e1_5de2.j3 (K : Nat) (g1 : (List T_huff_packet) → Int → Res (List T_huff_packet)) (g2 : (List T_huff_packet) → Int → Res (List T_huff_packet)) (i1785 : Int) (data1857 : (List T_huff_packet)) (j1862 : Int) (v1880 : Bool) : Res (List T_huff_packet) :=
  cond v1880
    (
    chk (inb (w64 (j1862 - (1 : Int))) data1857.length) <|
    chk (inb j1862 data1857.length) <|
    lt (data1857.set (Int.toNat j1862) (T_huff_packet.mk ((rd data1857 (w64 (j1862 - (1 : Int)))).often_) ((rd data1857 (w64 (j1862 - (1 : Int)))).symbols_))) fun (zs1905 : (List T_huff_packet)) =>
    chk (inb (w64 (j1862 - (1 : Int))) zs1905.length) <|
    lt (zs1905.set (Int.toNat (w64 (j1862 - (1 : Int)))) (T_huff_packet.mk ((rd data1857 j1862).often_) ((rd data1857 j1862).symbols_))) fun (zs1918 : (List T_huff_packet)) =>
    lt ((w64 (j1862 - (1 : Int)))) fun (j1922 : Int) =>
    g2 zs1918 j1922)
    (
    lt ((w64 (i1785 + (1 : Int)))) fun (i1883 : Int) =>
    g1 data1857 i1883)

def slices_insertionSortCmpFunc_huff_packet__b6e1_5de2.l2 (K : Nat) (g1 : (List T_huff_packet) → Int → Res (List T_huff_packet)) (a_1597 : Int) (i1785 : Int) : Nat → (List T_huff_packet) → Int → Res (List T_huff_packet)
  | 0, _, _ => .fail
  | k + 1, data1857, j1862 =>
    cond (decide (j1862 > a_1597))
      (
      chk (inb j1862 data1857.length) <|
      chk (inb (w64 (j1862 - (1 : Int))) data1857.length) <|
      (huff_Lengths_2.m K (T_huff_packet.mk ((rd data1857 j1862).often_) ((rd data1857 j1862).symbols_)) (T_huff_packet.mk ((rd data1857 (w64 (j1862 - (1 : Int)))).often_) ((rd data1857 (w64 (j1862 - (1 : Int)))).symbols_))).bind fun x1879 =>
      slices_insertionSortCmpFunc_huff_packet__b6e1_5de2.j3 K (g1) (slices_insertionSortCmpFunc_huff_packet__b6e1_5de2.l2 K g1 a_1597 i1785 k) i1785 data1857 j1862 (decide (x1879 < (0 : Int))))
      (
      slices_insertionSortCmpFunc_huff_packet__b6e1_5de2.j3 K (g1) (slices_insertionSortCmpFunc_huff_packet__b6e1_5de2.l2 K g1 a_1597 i1785 k) i1785 data1857 j1862 false)

def slices_insertionSortCmpFunc_huff_packet__b6e1_5de2.l1 (K : Nat) (a_1597 : Int) (b_1598 : Int) : Nat → (List T_huff_packet) → Int → Res (List T_huff_packet)
  | 0, _, _ => .fail
  | k + 1, data1780, i1785 =>
    cond (decide (i1785 < b_1598))
      (
      slices_insertionSortCmpFunc_huff_packet__b6e1_5de2.l2 K (slices_insertionSortCmpFunc_huff_packet__b6e1_5de2.l1 K a_1597 b_1598 k) a_1597 i1785 K data1780 i1785)
      (
      .ok data1780)

def slices_insertionSortCmpFunc_huff_packet__b6e1_5de2.m (K : Nat) (data1589 : List T_huff_packet) (a_1597 : Int) (b_1598 : Int) : Res (List T_huff_packet) :=
  lt ((w64 (a_1597 + (1 : Int)))) fun (i1601 : Int) =>
  slices_insertionSortCmpFunc_huff_packet__b6e1_5de2.l1 K a_1597 b_1598 K data1589 i1601

def slices_swapRangeCmpFunc_huff_packet__b6e1_7e8b.l1 (K : Nat) (a_2315 : Int) (b_2316 : Int) (n_2317 : Int) : Nat → (List T_huff_packet) → Int → Res (List T_huff_packet)
  | 0, _, _ => .fail
  | k + 1, data2370, i2375 =>
    cond (decide (i2375 < n_2317))
      (
      chk (inb (w64 (b_2316 + i2375)) data2370.length) <|
      chk (inb (w64 (a_2315 + i2375)) data2370.length) <|
      lt (data2370.set (Int.toNat (w64 (a_2315 + i2375))) (T_huff_packet.mk ((rd data2370 (w64 (b_2316 + i2375))).often_) ((rd data2370 (w64 (b_2316 + i2375))).symbols_))) fun (zs2399 : (List T_huff_packet)) =>
      chk (inb (w64 (b_2316 + i2375)) zs2399.length) <|
      lt (zs2399.set (Int.toNat (w64 (b_2316 + i2375))) (T_huff_packet.mk ((rd data2370 (w64 (a_2315 + i2375))).often_) ((rd data2370 (w64 (a_2315 + i2375))).symbols_))) fun (zs2412 : (List T_huff_packet)) =>
      lt ((w64 (i2375 + (1 : Int)))) fun (i2416 : Int) =>
      slices_swapRangeCmpFunc_huff_packet__b6e1_7e8b.l1 K a_2315 b_2316 n_2317 k zs2412 i2416)
      (
      .ok data2370)

def slices_swapRangeCmpFunc_huff_packet__b6e1_7e8b.m (K : Nat) (data2307 : List T_huff_packet) (a_2315 : Int) (b_2316 : Int) (n_2317 : Int) : Res (List T_huff_packet) :=
  slices_swapRangeCmpFunc_huff_packet__b6e1_7e8b.l1 K a_2315 b_2316 n_2317 K data2307 (0 : Int)

def slices_rotateCmpFunc_huff_packet__b6e1_7e8b.j2 (K : Nat) (m2296 : Int) (data2477 : (List T_huff_packet)) (i2482 : Int) : Res (List T_huff_packet) :=
  (slices_swapRangeCmpFunc_huff_packet__b6e1_7e8b.m K data2477 (w64 (m2296 - i2482)) m2296 i2482).bind fun data2485 =>
  .ok data2485

def slices_rotateCmpFunc_huff_packet__b6e1_7e8b.l1 (K : Nat) (m2296 : Int) : Nat → (List T_huff_packet) → Int → Int → Res (List T_huff_packet)
  | 0, _, _, _ => .fail
  | k + 1, data2449, i2454, j2455 =>
    cond (i2454 != j2455)
      (
      cond (decide (i2454 > j2455))
        (
        (slices_swapRangeCmpFunc_huff_packet__b6e1_7e8b.m K data2449 (w64 (m2296 - i2454)) m2296 j2455).bind fun data2460 =>
        lt ((w64 (i2454 - j2455))) fun (i2466 : Int) =>
        slices_rotateCmpFunc_huff_packet__b6e1_7e8b.l1 K m2296 k data2460 i2466 j2455)
        (
        (slices_swapRangeCmpFunc_huff_packet__b6e1_7e8b.m K data2449 (w64 (m2296 - i2454)) (w64 ((w64 (m2296 + j2455)) - i2454)) i2454).bind fun data2468 =>
        lt ((w64 (j2455 - i2454))) fun (j2474 : Int) =>
        slices_rotateCmpFunc_huff_packet__b6e1_7e8b.l1 K m2296 k data2468 i2454 j2474))
      (
      slices_rotateCmpFunc_huff_packet__b6e1_7e8b.j2 K m2296 data2449 i2454)

def slices_rotateCmpFunc_huff_packet__b6e1_7e8b.m (K : Nat) (data2287 : List T_huff_packet) (a_2295 : Int) (m2296 : Int) (b_2297 : Int) : Res (List T_huff_packet) :=
  lt ((w64 (m2296 - a_2295))) fun (i2300 : Int) =>
  lt ((w64 (b_2297 - m2296))) fun (j2301 : Int) =>
  slices_rotateCmpFunc_huff_packet__b6e1_7e8b.l1 K m2296 K data2287 i2300 j2301

def slices_symMergeCmpFunc_huff_packet__b6e1_7e8b.l3 (K : Nat) (rc : (List T_huff_packet) → Int → Int → Int → Res (List T_huff_packet)) (i2556 : Int) : Nat → (List T_huff_packet) → Int → Res (List T_huff_packet)
  | 0, _, _ => .fail
  | k + 1, data2608, k_2613 =>
    cond (decide (k_2613 < (w64 (i2556 - (1 : Int)))))
      (
      chk (inb (w64 (k_2613 + (1 : Int))) data2608.length) <|
      chk (inb k_2613 data2608.length) <|
      lt (data2608.set (Int.toNat k_2613) (T_huff_packet.mk ((rd data2608 (w64 (k_2613 + (1 : Int)))).often_) ((rd data2608 (w64 (k_2613 + (1 : Int)))).symbols_))) fun (zs2637 : (List T_huff_packet)) =>
      chk (inb (w64 (k_2613 + (1 : Int))) zs2637.length) <|
      lt (zs2637.set (Int.toNat (w64 (k_2613 + (1 : Int)))) (T_huff_packet.mk ((rd data2608 k_2613).often_) ((rd data2608 k_2613).symbols_))) fun (zs2650 : (List T_huff_packet)) =>
      lt ((w64 (k_2613 + (1 : Int)))) fun (k_2654 : Int) =>
      slices_symMergeCmpFunc_huff_packet__b6e1_7e8b.l3 K rc i2556 k zs2650 k_2654)
      (
      .ok data2608)

def slices_symMergeCmpFunc_huff_packet__b6e1_7e8b.j2 (K : Nat) (rc : (List T_huff_packet) → Int → Int → Int → Res (List T_huff_packet)) (data2519 : List T_huff_packet) (a_2527 : Int) (i2556 : Int) : Res (List T_huff_packet) :=
  slices_symMergeCmpFunc_huff_packet__b6e1_7e8b.l3 K rc i2556 K data2519 a_2527

def slices_symMergeCmpFunc_huff_packet__b6e1_7e8b.l1 (K : Nat) (rc : (List T_huff_packet) → Int → Int → Int → Res (List T_huff_packet)) (data2519 : List T_huff_packet) (a_2527 : Int) : Nat → Int → Int → Res (List T_huff_packet)
  | 0, _, _ => .fail
  | k + 1, i2533, j2534 =>
    cond (decide (i2533 < j2534))
      (
      lt ((wr .i64 (ishr .u64 (wr .u64 (w64 (i2533 + j2534))) (1 : Int)))) fun (h2537 : Int) =>
      chk (inb h2537 data2519.length) <|
      chk (inb a_2527 data2519.length) <|
      (huff_Lengths_2.m K (T_huff_packet.mk ((rd data2519 h2537).often_) ((rd data2519 h2537).symbols_)) (T_huff_packet.mk ((rd data2519 a_2527).often_) ((rd data2519 a_2527).symbols_))).bind fun x2552 =>
      cond (decide (x2552 < (0 : Int)))
        (
        lt ((w64 (h2537 + (1 : Int)))) fun (i2554 : Int) =>
        slices_symMergeCmpFunc_huff_packet__b6e1_7e8b.l1 K rc data2519 a_2527 k i2554 j2534)
        (
        slices_symMergeCmpFunc_huff_packet__b6e1_7e8b.l1 K rc data2519 a_2527 k i2533 h2537))
      (
      slices_symMergeCmpFunc_huff_packet__b6e1_7e8b.j2 K rc data2519 a_2527 i2533)

def slices_symMergeCmpFunc_huff_packet__b6e1_7e8b.l7 (K : Nat) (rc : (List T_huff_packet) → Int → Int → Int → Res (List T_huff_packet)) (i2681 : Int) : Nat → (List T_huff_packet) → Int → Res (List T_huff_packet)
  | 0, _, _ => .fail
  | k + 1, data2733, k_2738 =>
    cond (decide (k_2738 > i2681))
      (
      chk (inb (w64 (k_2738 - (1 : Int))) data2733.length) <|
      chk (inb k_2738 data2733.length) <|
      lt (data2733.set (Int.toNat k_2738) (T_huff_packet.mk ((rd data2733 (w64 (k_2738 - (1 : Int)))).often_) ((rd data2733 (w64 (k_2738 - (1 : Int)))).symbols_))) fun (zs2762 : (List T_huff_packet)) =>
      chk (inb (w64 (k_2738 - (1 : Int))) zs2762.length) <|
      lt (zs2762.set (Int.toNat (w64 (k_2738 - (1 : Int)))) (T_huff_packet.mk ((rd data2733 k_2738).often_) ((rd data2733 k_2738).symbols_))) fun (zs2775 : (List T_huff_packet)) =>
      lt ((w64 (k_2738 - (1 : Int)))) fun (k_2779 : Int) =>
      slices_symMergeCmpFunc_huff_packet__b6e1_7e8b.l7 K rc i2681 k zs2775 k_2779)
      (
      .ok data2733)

def slices_symMergeCmpFunc_huff_packet__b6e1_7e8b.j6 (K : Nat) (rc : (List T_huff_packet) → Int → Int → Int → Res (List T_huff_packet)) (data2519 : List T_huff_packet) (m2528 : Int) (i2681 : Int) : Res (List T_huff_packet) :=
  slices_symMergeCmpFunc_huff_packet__b6e1_7e8b.l7 K rc i2681 K data2519 m2528

def slices_symMergeCmpFunc_huff_packet__b6e1_7e8b.l5 (K : Nat) (rc : (List T_huff_packet) → Int → Int → Int → Res (List T_huff_packet)) (data2519 : List T_huff_packet) (m2528 : Int) : Nat → Int → Int → Res (List T_huff_packet)
  | 0, _, _ => .fail
  | k + 1, i2658, j2659 =>
    cond (decide (i2658 < j2659))
      (
      lt ((wr .i64 (ishr .u64 (wr .u64 (w64 (i2658 + j2659))) (1 : Int)))) fun (h2662 : Int) =>
      chk (inb m2528 data2519.length) <|
      chk (inb h2662 data2519.length) <|
      (huff_Lengths_2.m K (T_huff_packet.mk ((rd data2519 m2528).often_) ((rd data2519 m2528).symbols_)) (T_huff_packet.mk ((rd data2519 h2662).often_) ((rd data2519 h2662).symbols_))).bind fun x2677 =>
      cond (!(decide (x2677 < (0 : Int))))
        (
        lt ((w64 (h2662 + (1 : Int)))) fun (i2679 : Int) =>
        slices_symMergeCmpFunc_huff_packet__b6e1_7e8b.l5 K rc data2519 m2528 k i2679 j2659)
        (
        slices_symMergeCmpFunc_huff_packet__b6e1_7e8b.l5 K rc data2519 m2528 k i2658 h2662))
      (
      slices_symMergeCmpFunc_huff_packet__b6e1_7e8b.j6 K rc data2519 m2528 i2658)

def slices_symMergeCmpFunc_huff_packet__b6e1_7e8b.j13 (K : Nat) (rc : (List T_huff_packet) → Int → Int → Int → Res (List T_huff_packet)) (b_2529 : Int) (mid2782 : Int) (end_2815 : Int) (data2840 : (List T_huff_packet)) : Res (List T_huff_packet) :=
  cond ((decide (mid2782 < end_2815)) && (decide (end_2815 < b_2529)))
    (
    (rc data2840 mid2782 end_2815 b_2529).bind fun data2848 =>
    .ok data2848)
    (
    .ok data2840)

def slices_symMergeCmpFunc_huff_packet__b6e1_7e8b.j12 (K : Nat) (rc : (List T_huff_packet) → Int → Int → Int → Res (List T_huff_packet)) (a_2527 : Int) (b_2529 : Int) (mid2782 : Int) (start2813 : Int) (end_2815 : Int) (data2825 : (List T_huff_packet)) : Res (List T_huff_packet) :=
  cond ((decide (a_2527 < start2813)) && (decide (start2813 < mid2782)))
    (
    (rc data2825 a_2527 start2813 mid2782).bind fun data2833 =>
    slices_symMergeCmpFunc_huff_packet__b6e1_7e8b.j13 K rc b_2529 mid2782 end_2815 data2833)
    (
    slices_symMergeCmpFunc_huff_packet__b6e1_7e8b.j13 K rc b_2529 mid2782 end_2815 data2825)

def slices_symMergeCmpFunc_huff_packet__b6e1_7e8b.j11 (K : Nat) (rc : (List T_huff_packet) → Int → Int → Int → Res (List T_huff_packet)) (data2519 : List T_huff_packet) (a_2527 : Int) (m2528 : Int) (b_2529 : Int) (mid2782 : Int) (n_2783 : Int) (start2813 : Int) : Res (List T_huff_packet) :=
  lt ((w64 (n_2783 - start2813))) fun (end_2815 : Int) =>
  cond ((decide (start2813 < m2528)) && (decide (m2528 < end_2815)))
    (
    (slices_rotateCmpFunc_huff_packet__b6e1_7e8b.m K data2519 start2813 m2528 end_2815).bind fun data2818 =>
    slices_symMergeCmpFunc_huff_packet__b6e1_7e8b.j12 K rc a_2527 b_2529 mid2782 start2813 end_2815 data2818)
    (
    slices_symMergeCmpFunc_huff_packet__b6e1_7e8b.j12 K rc a_2527 b_2529 mid2782 start2813 end_2815 data2519)

def slices_symMergeCmpFunc_huff_packet__b6e1_7e8b.l10 (K : Nat) (rc : (List T_huff_packet) → Int → Int → Int → Res (List T_huff_packet)) (data2519 : List T_huff_packet) (a_2527 : Int) (m2528 : Int) (b_2529 : Int) (mid2782 : Int) (n_2783 : Int) (p2789 : Int) : Nat → Int → Int → Res (List T_huff_packet)
  | 0, _, _ => .fail
  | k + 1, start2790, r2791 =>
    cond (decide (start2790 < r2791))
      (
      lt ((wr .i64 (ishr .u64 (wr .u64 (w64 (start2790 + r2791))) (1 : Int)))) fun (c_2794 : Int) =>
      chk (inb (w64 (p2789 - c_2794)) data2519.length) <|
      chk (inb c_2794 data2519.length) <|
      (huff_Lengths_2.m K (T_huff_packet.mk ((rd data2519 (w64 (p2789 - c_2794))).often_) ((rd data2519 (w64 (p2789 - c_2794))).symbols_)) (T_huff_packet.mk ((rd data2519 c_2794).often_) ((rd data2519 c_2794).symbols_))).bind fun x2809 =>
      cond (!(decide (x2809 < (0 : Int))))
        (
        lt ((w64 (c_2794 + (1 : Int)))) fun (start2811 : Int) =>
        slices_symMergeCmpFunc_huff_packet__b6e1_7e8b.l10 K rc data2519 a_2527 m2528 b_2529 mid2782 n_2783 p2789 k start2811 r2791)
        (
        slices_symMergeCmpFunc_huff_packet__b6e1_7e8b.l10 K rc data2519 a_2527 m2528 b_2529 mid2782 n_2783 p2789 k start2790 c_2794))
      (
      slices_symMergeCmpFunc_huff_packet__b6e1_7e8b.j11 K rc data2519 a_2527 m2528 b_2529 mid2782 n_2783 start2790)

def slices_symMergeCmpFunc_huff_packet__b6e1_7e8b.j9 (K : Nat) (rc : (List T_huff_packet) → Int → Int → Int → Res (List T_huff_packet)) (data2519 : List T_huff_packet) (a_2527 : Int) (m2528 : Int) (b_2529 : Int) (mid2782 : Int) (n_2783 : Int) (start2786 : Int) (r2787 : Int) : Res (List T_huff_packet) :=
  lt ((w64 (n_2783 - (1 : Int)))) fun (p2789 : Int) =>
  slices_symMergeCmpFunc_huff_packet__b6e1_7e8b.l10 K rc data2519 a_2527 m2528 b_2529 mid2782 n_2783 p2789 K start2786 r2787

def slices_symMergeCmpFunc_huff_packet__b6e1_7e8b.j8 (K : Nat) (rc : (List T_huff_packet) → Int → Int → Int → Res (List T_huff_packet)) (data2519 : List T_huff_packet) (a_2527 : Int) (m2528 : Int) (b_2529 : Int) : Res (List T_huff_packet) :=
  lt ((wr .i64 (ishr .u64 (wr .u64 (w64 (a_2527 + b_2529))) (1 : Int)))) fun (mid2782 : Int) =>
  lt ((w64 (mid2782 + m2528))) fun (n_2783 : Int) =>
  cond (decide (m2528 > mid2782))
    (
    lt ((w64 (n_2783 - b_2529))) fun (start2785 : Int) =>
    slices_symMergeCmpFunc_huff_packet__b6e1_7e8b.j9 K rc data2519 a_2527 m2528 b_2529 mid2782 n_2783 start2785 mid2782)
    (
    slices_symMergeCmpFunc_huff_packet__b6e1_7e8b.j9 K rc data2519 a_2527 m2528 b_2529 mid2782 n_2783 a_2527 m2528)

def slices_symMergeCmpFunc_huff_packet__b6e1_7e8b.j4 (K : Nat) (rc : (List T_huff_packet) → Int → Int → Int → Res (List T_huff_packet)) (data2519 : List T_huff_packet) (a_2527 : Int) (m2528 : Int) (b_2529 : Int) : Res (List T_huff_packet) :=
  cond ((w64 (b_2529 - m2528)) == (1 : Int))
    (
    slices_symMergeCmpFunc_huff_packet__b6e1_7e8b.l5 K rc data2519 m2528 K a_2527 m2528)
    (
    slices_symMergeCmpFunc_huff_packet__b6e1_7e8b.j8 K rc data2519 a_2527 m2528 b_2529)

def slices_symMergeCmpFunc_huff_packet__b6e1_7e8b.b (K : Nat) (rc : (List T_huff_packet) → Int → Int → Int → Res (List T_huff_packet)) (data2519 : List T_huff_packet) (a_2527 : Int) (m2528 : Int) (b_2529 : Int) : Res (List T_huff_packet) :=
  cond ((w64 (m2528 - a_2527)) == (1 : Int))
    (
    slices_symMergeCmpFunc_huff_packet__b6e1_7e8b.l1 K rc data2519 a_2527 K m2528 b_2529)
    (
    slices_symMergeCmpFunc_huff_packet__b6e1_7e8b.j4 K rc data2519 a_2527 m2528 b_2529)

def slices_symMergeCmpFunc_huff_packet__b6e1_7e8b.r (K : Nat) : Nat → (List T_huff_packet) → Int → Int → Int → Res (List T_huff_packet)
  | 0 => fun _ _ _ _ => .fail
  | d + 1 => slices_symMergeCmpFunc_huff_packet__b6e1_7e8b.b K (slices_symMergeCmpFunc_huff_packet__b6e1_7e8b.r K d)

def slices_symMergeCmpFunc_huff_packet__b6e1_7e8b.m (K : Nat) (data2519 : List T_huff_packet) (a_2527 : Int) (m2528 : Int) (b_2529 : Int) : Res (List T_huff_packet) := slices_symMergeCmpFunc_huff_packet__b6e1_7e8b.r K K data2519 a_2527 m2528 b_2529

def slices_stableCmpFunc_huff_packet__b6e1_8977.j5 (K : Nat) (g3 : (List T_huff_packet) → Int → Res (List T_huff_packet)) (n_1582 : Int) (blockSize2927 : Int) (data2971 : (List T_huff_packet)) (a_2976 : Int) : Res (List T_huff_packet) :=
  lt ((w64 (a_2976 + blockSize2927))) fun (m2978 : Int) =>
  cond (decide (m2978 < n_1582))
    (
    (slices_symMergeCmpFunc_huff_packet__b6e1_7e8b.m K data2971 a_2976 m2978 n_1582).bind fun data2981 =>
    lt ((w64 (blockSize2927 * (2 : Int)))) fun (blockSize2987 : Int) =>
    g3 data2981 blockSize2987)
    (
    lt ((w64 (blockSize2927 * (2 : Int)))) fun (blockSize2988 : Int) =>
    g3 data2971 blockSize2988)

def slices_stableCmpFunc_huff_packet__b6e1_8977.l4 (K : Nat) (g3 : (List T_huff_packet) → Int → Res (List T_huff_packet)) (n_1582 : Int) (blockSize2927 : Int) : Nat → (List T_huff_packet) → Int → Int → Res (List T_huff_packet)
  | 0, _, _, _ => .fail
  | k + 1, data2952, a_2957, b_2958 =>
    cond (decide (b_2958 ≤ n_1582))
      (
      (slices_symMergeCmpFunc_huff_packet__b6e1_7e8b.m K data2952 a_2957 (w64 (a_2957 + blockSize2927)) b_2958).bind fun data2962 =>
      lt ((w64 (b_2958 + (w64 ((2 : Int) * blockSize2927))))) fun (b_2968 : Int) =>
      slices_stableCmpFunc_huff_packet__b6e1_8977.l4 K g3 n_1582 blockSize2927 k data2962 b_2958 b_2968)
      (
      slices_stableCmpFunc_huff_packet__b6e1_8977.j5 K (g3) n_1582 blockSize2927 data2952 a_2957)

def slices_stableCmpFunc_huff_packet__b6e1_8977.l3 (K : Nat) (n_1582 : Int) : Nat → (List T_huff_packet) → Int → Res (List T_huff_packet)
  | 0, _, _ => .fail
  | k + 1, data2922, blockSize2927 =>
    cond (decide (blockSize2927 < n_1582))
      (
      lt ((w64 ((2 : Int) * blockSize2927))) fun (b_2930 : Int) =>
      slices_stableCmpFunc_huff_packet__b6e1_8977.l4 K (slices_stableCmpFunc_huff_packet__b6e1_8977.l3 K n_1582 k) n_1582 blockSize2927 K data2922 (0 : Int) b_2930)
      (
      .ok data2922)

def slices_stableCmpFunc_huff_packet__b6e1_8977.j2 (K : Nat) (n_1582 : Int) (data1967 : (List T_huff_packet)) (a_1972 : Int) : Res (List T_huff_packet) :=
  (slices_insertionSortCmpFunc_huff_packet__b6e1_5de2.m K data1967 a_1972 n_1582).bind fun data1975 =>
  slices_stableCmpFunc_huff_packet__b6e1_8977.l3 K n_1582 K data1975 (20 : Int)

def slices_stableCmpFunc_huff_packet__b6e1_8977.l1 (K : Nat) (n_1582 : Int) : Nat → (List T_huff_packet) → Int → Int → Res (List T_huff_packet)
  | 0, _, _, _ => .fail
  | k + 1, data1948, a_1953, b_1954 =>
    cond (decide (b_1954 ≤ n_1582))
      (
      (slices_insertionSortCmpFunc_huff_packet__b6e1_5de2.m K data1948 a_1953 b_1954).bind fun data1958 =>
      lt ((w64 (b_1954 + (20 : Int)))) fun (b_1964 : Int) =>
      slices_stableCmpFunc_huff_packet__b6e1_8977.l1 K n_1582 k data1958 b_1954 b_1964)
      (
      slices_stableCmpFunc_huff_packet__b6e1_8977.j2 K n_1582 data1948 a_1953)

def slices_stableCmpFunc_huff_packet__b6e1_8977.m (K : Nat) (data1574 : List T_huff_packet) (n_1582 : Int) : Res (List T_huff_packet) :=
  slices_stableCmpFunc_huff_packet__b6e1_8977.l1 K n_1582 K data1574 (0 : Int) (20 : Int)

def slices_SortStableFunc___huff_packet_huff_packet__b6e1_f289.m (K : Nat) (x1564 : List T_huff_packet) : Res (List T_huff_packet) :=
  (slices_stableCmpFunc_huff_packet__b6e1_8977.m K x1564 (x1564.length : Int)).bind fun data2997 =>
  .ok data2997

def slices_Grow___int_int__f5f7.m (K : Nat) (n_3102 : Int) : Res Unit :=
  cond (decide (n_3102 < (0 : Int)))
    (
    .pan (.iface ty_string (str ([99, 97, 110, 110, 111, 116, 32, 98, 101, 32, 110, 101, 103, 97, 116, 105, 118, 101] : List UInt8))))
    (
    lt ((w64 (n_3102 - (w64 ((0 : Int) - (0 : Int)))))) fun (n_3106 : Int) =>
    cond (decide (n_3106 > (0 : Int)))
      (
      chk (decide ((0 : Int) < n_3106) && room (Int.toNat n_3106) 8) <|
      .ok ())
      (
      .ok ()))

def slices_Concat___int_int_.l3 (K : Nat) (slices3076 : List (List Int)) : Nat → (List Int) → Int → Res (List Int)
  | 0, _, _ => .fail
  | k + 1, newslice3148, v3151 =>
    cond (decide (v3151 < (slices3076.length : Int)))
      (
      chk (inb v3151 slices3076.length) <|
      chk (room (newslice3148.length + (rd slices3076 v3151).length) 8) <|
      lt (newslice3148 ++ (rd slices3076 v3151)) fun (zs3165 : (List Int)) =>
      slices_Concat___int_int_.l3 K slices3076 k zs3165 (w64 (v3151 + (1 : Int))))
      (
      .ok newslice3148)

def slices_Concat___int_int_.j2 (K : Nat) (slices3076 : List (List Int)) (size3100 : Int) : Res (List Int) :=
  (slices_Grow___int_int__f5f7.m K size3100).bind fun _ =>
  slices_Concat___int_int_.l3 K slices3076 K ([] : List Int) (0 : Int)

def slices_Concat___int_int_.l1 (K : Nat) (slices3076 : List (List Int)) : Nat → Int → Int → Res (List Int)
  | 0, _, _ => .fail
  | k + 1, size3087, v3088 =>
    cond (decide (v3088 < (slices3076.length : Int)))
      (
      chk (inb v3088 slices3076.length) <|
      lt ((w64 (size3087 + ((rd slices3076 v3088).length : Int)))) fun (size3097 : Int) =>
      cond (decide (size3097 < (0 : Int)))
        (
        .pan (.iface ty_string (str ([108, 101, 110, 32, 111, 117, 116, 32, 111, 102, 32, 114, 97, 110, 103, 101] : List UInt8))))
        (
        slices_Concat___int_int_.l1 K slices3076 k size3097 (w64 (v3088 + (1 : Int)))))
      (
      slices_Concat___int_int_.j2 K slices3076 size3087)

def slices_Concat___int_int_.m (K : Nat) (slices3076 : List (List Int)) : Res (List Int) :=
  slices_Concat___int_int_.l1 K slices3076 K (0 : Int) (0 : Int)

def huff_pairs.l1 (K : Nat) (l_3023 : List T_huff_packet) : Nat → (List T_huff_packet) → Int → Res (List T_huff_packet)
  | 0, _, _ => .fail
  | k + 1, out3218, i3222 =>
    cond (decide ((w64 (i3222 + (1 : Int))) < (l_3023.length : Int)))
      (
      chk (inb i3222 l_3023.length) <|
      chk (inb (w64 (i3222 + (1 : Int))) l_3023.length) <|
      (slices_Concat___int_int_.m K ([(rd l_3023 i3222).symbols_, (rd l_3023 (w64 (i3222 + (1 : Int)))).symbols_] : List (List Int))).bind fun x3262 =>
      chk (room (out3218.length + ([(T_huff_packet.mk (w64 ((rd l_3023 i3222).often_ + (rd l_3023 (w64 (i3222 + (1 : Int)))).often_)) x3262)] : List T_huff_packet).length) 32) <|
      lt (out3218 ++ ([(T_huff_packet.mk (w64 ((rd l_3023 i3222).often_ + (rd l_3023 (w64 (i3222 + (1 : Int)))).often_)) x3262)] : List T_huff_packet)) fun (zs3282 : (List T_huff_packet)) =>
      lt ((w64 (i3222 + (2 : Int)))) fun (i3284 : Int) =>
      huff_pairs.l1 K l_3023 k zs3282 i3284)
      (
      .ok out3218)

def huff_pairs.m (K : Nat) (l_3023 : List T_huff_packet) : Res (List T_huff_packet) :=
  huff_pairs.l1 K l_3023 K ([] : List T_huff_packet) (0 : Int)

def slices_Grow___huff_packet_huff_packet__8ef0.m (K : Nat) (n_3368 : Int) : Res Unit :=
  cond (decide (n_3368 < (0 : Int)))
    (
    .pan (.iface ty_string (str ([99, 97, 110, 110, 111, 116, 32, 98, 101, 32, 110, 101, 103, 97, 116, 105, 118, 101] : List UInt8))))
    (
    lt ((w64 (n_3368 - (w64 ((0 : Int) - (0 : Int)))))) fun (n_3374 : Int) =>
    cond (decide (n_3374 > (0 : Int)))
      (
      chk (decide ((0 : Int) < n_3374) && room (Int.toNat n_3374) 32) <|
      .ok ())
      (
      .ok ()))

def slices_Concat___huff_packet_huff_packet_.l3 (K : Nat) (slices3339 : List (List T_huff_packet)) : Nat → (List T_huff_packet) → Int → Res (List T_huff_packet)
  | 0, _, _ => .fail
  | k + 1, newslice3432, v3436 =>
    cond (decide (v3436 < (slices3339.length : Int)))
      (
      chk (inb v3436 slices3339.length) <|
      chk (room (newslice3432.length + (rd slices3339 v3436).length) 32) <|
      lt (newslice3432 ++ (rd slices3339 v3436)) fun (zs3453 : (List T_huff_packet)) =>
      slices_Concat___huff_packet_huff_packet_.l3 K slices3339 k zs3453 (w64 (v3436 + (1 : Int))))
      (
      .ok newslice3432)

def slices_Concat___huff_packet_huff_packet_.j2 (K : Nat) (slices3339 : List (List T_huff_packet)) (size3366 : Int) : Res (List T_huff_packet) :=
  (slices_Grow___huff_packet_huff_packet__8ef0.m K size3366).bind fun _ =>
  slices_Concat___huff_packet_huff_packet_.l3 K slices3339 K ([] : List T_huff_packet) (0 : Int)

def slices_Concat___huff_packet_huff_packet_.l1 (K : Nat) (slices3339 : List (List T_huff_packet)) : Nat → Int → Int → Res (List T_huff_packet)
  | 0, _, _ => .fail
  | k + 1, size3351, v3352 =>
    cond (decide (v3352 < (slices3339.length : Int)))
      (
      chk (inb v3352 slices3339.length) <|
      lt ((w64 (size3351 + ((rd slices3339 v3352).length : Int)))) fun (size3363 : Int) =>
      cond (decide (size3363 < (0 : Int)))
        (
        .pan (.iface ty_string (str ([108, 101, 110, 32, 111, 117, 116, 32, 111, 102, 32, 114, 97, 110, 103, 101] : List UInt8))))
        (
        slices_Concat___huff_packet_huff_packet_.l1 K slices3339 k size3363 (w64 (v3352 + (1 : Int)))))
      (
      slices_Concat___huff_packet_huff_packet_.j2 K slices3339 size3351)

def slices_Concat___huff_packet_huff_packet_.m (K : Nat) (slices3339 : List (List T_huff_packet)) : Res (List T_huff_packet) :=
  slices_Concat___huff_packet_huff_packet_.l1 K slices3339 K (0 : Int) (0 : Int)

def huff_merged_1.m (K : Nat) (x3532 : T_huff_packet) (y3537 : T_huff_packet) : Res Int :=
  (cmp_Compare_int_.m K x3532.often_ y3537.often_).bind fun x3548 =>
  .ok x3548

def slices_insertionSortCmpFunc_huff_packet__b6e1_dee5.j3 (K : Nat) (g1 : (List T_huff_packet) → Int → Res (List T_huff_packet)) (g2 : (List T_huff_packet) → Int → Res (List T_huff_packet)) (i3682 : Int) (data3754 : (List T_huff_packet)) (j3759 : Int) (v3777 : Bool) : Res (List T_huff_packet) :=
  cond v3777
    (
    chk (inb (w64 (j3759 - (1 : Int))) data3754.length) <|
    chk (inb j3759 data3754.length) <|
    lt (data3754.set (Int.toNat j3759) (T_huff_packet.mk ((rd data3754 (w64 (j3759 - (1 : Int)))).often_) ((rd data3754 (w64 (j3759 - (1 : Int)))).symbols_))) fun (zs3802 : (List T_huff_packet)) =>
    chk (inb (w64 (j3759 - (1 : Int))) zs3802.length) <|
    lt (zs3802.set (Int.toNat (w64 (j3759 - (1 : Int)))) (T_huff_packet.mk ((rd data3754 j3759).often_) ((rd data3754 j3759).symbols_))) fun (zs3815 : (List T_huff_packet)) =>
    lt ((w64 (j3759 - (1 : Int)))) fun (j3819 : Int) =>
    g2 zs3815 j3819)
    (
    lt ((w64 (i3682 + (1 : Int)))) fun (i3780 : Int) =>
    g1 data3754 i3780)

def slices_insertionSortCmpFunc_huff_packet__b6e1_dee5.l2 (K : Nat) (g1 : (List T_huff_packet) → Int → Res (List T_huff_packet)) (a_3507 : Int) (i3682 : Int) : Nat → (List T_huff_packet) → Int → Res (List T_huff_packet)
  | 0, _, _ => .fail
  | k + 1, data3754, j3759 =>
    cond (decide (j3759 > a_3507))
      (
      chk (inb j3759 data3754.length) <|
      chk (inb (w64 (j3759 - (1 : Int))) data3754.length) <|
      (huff_merged_1.m K (T_huff_packet.mk ((rd data3754 j3759).often_) ((rd data3754 j3759).symbols_)) (T_huff_packet.mk ((rd data3754 (w64 (j3759 - (1 : Int)))).often_) ((rd data3754 (w64 (j3759 - (1 : Int)))).symbols_))).bind fun x3776 =>
      slices_insertionSortCmpFunc_huff_packet__b6e1_dee5.j3 K (g1) (slices_insertionSortCmpFunc_huff_packet__b6e1_dee5.l2 K g1 a_3507 i3682 k) i3682 data3754 j3759 (decide (x3776 < (0 : Int))))
      (
      slices_insertionSortCmpFunc_huff_packet__b6e1_dee5.j3 K (g1) (slices_insertionSortCmpFunc_huff_packet__b6e1_dee5.l2 K g1 a_3507 i3682 k) i3682 data3754 j3759 false)

def slices_insertionSortCmpFunc_huff_packet__b6e1_dee5.l1 (K : Nat) (a_3507 : Int) (b_3508 : Int) : Nat → (List T_huff_packet) → Int → Res (List T_huff_packet)
  | 0, _, _ => .fail
  | k + 1, data3677, i3682 =>
    cond (decide (i3682 < b_3508))
      (
      slices_insertionSortCmpFunc_huff_packet__b6e1_dee5.l2 K (slices_insertionSortCmpFunc_huff_packet__b6e1_dee5.l1 K a_3507 b_3508 k) a_3507 i3682 K data3677 i3682)
      (
      .ok data3677)

def slices_insertionSortCmpFunc_huff_packet__b6e1_dee5.m (K : Nat) (data3499 : List T_huff_packet) (a_3507 : Int) (b_3508 : Int) : Res (List T_huff_packet) :=
  lt ((w64 (a_3507 + (1 : Int)))) fun (i3511 : Int) =>
  slices_insertionSortCmpFunc_huff_packet__b6e1_dee5.l1 K a_3507 b_3508 K data3499 i3511

def slices_swapRangeCmpFunc_huff_packet__b6e1_b35e.l1 (K : Nat) (a_4212 : Int) (b_4213 : Int) (n_4214 : Int) : Nat → (List T_huff_packet) → Int → Res (List T_huff_packet)
  | 0, _, _ => .fail
  | k + 1, data4267, i4272 =>
    cond (decide (i4272 < n_4214))
      (
      chk (inb (w64 (b_4213 + i4272)) data4267.length) <|
      chk (inb (w64 (a_4212 + i4272)) data4267.length) <|
      lt (data4267.set (Int.toNat (w64 (a_4212 + i4272))) (T_huff_packet.mk ((rd data4267 (w64 (b_4213 + i4272))).often_) ((rd data4267 (w64 (b_4213 + i4272))).symbols_))) fun (zs4296 : (List T_huff_packet)) =>
      chk (inb (w64 (b_4213 + i4272)) zs4296.length) <|
      lt (zs4296.set (Int.toNat (w64 (b_4213 + i4272))) (T_huff_packet.mk ((rd data4267 (w64 (a_4212 + i4272))).often_) ((rd data4267 (w64 (a_4212 + i4272))).symbols_))) fun (zs4309 : (List T_huff_packet)) =>
      lt ((w64 (i4272 + (1 : Int)))) fun (i4313 : Int) =>
      slices_swapRangeCmpFunc_huff_packet__b6e1_b35e.l1 K a_4212 b_4213 n_4214 k zs4309 i4313)
      (
      .ok data4267)

def slices_swapRangeCmpFunc_huff_packet__b6e1_b35e.m (K : Nat) (data4204 : List T_huff_packet) (a_4212 : Int) (b_4213 : Int) (n_4214 : Int) : Res (List T_huff_packet) :=
  slices_swapRangeCmpFunc_huff_packet__b6e1_b35e.l1 K a_4212 b_4213 n_4214 K data4204 (0 : Int)

def slices_rotateCmpFunc_huff_packet__b6e1_b35e.j2 (K : Nat) (m4193 : Int) (data4374 : (List T_huff_packet)) (i4379 : Int) : Res (List T_huff_packet) :=
  (slices_swapRangeCmpFunc_huff_packet__b6e1_b35e.m K data4374 (w64 (m4193 - i4379)) m4193 i4379).bind fun data4382 =>
  .ok data4382

def slices_rotateCmpFunc_huff_packet__b6e1_b35e.l1 (K : Nat) (m4193 : Int) : Nat → (List T_huff_packet) → Int → Int → Res (List T_huff_packet)
  | 0, _, _, _ => .fail
  | k + 1, data4346, i4351, j4352 =>
    cond (i4351 != j4352)
      (
      cond (decide (i4351 > j4352))
        (
        (slices_swapRangeCmpFunc_huff_packet__b6e1_b35e.m K data4346 (w64 (m4193 - i4351)) m4193 j4352).bind fun data4357 =>
        lt ((w64 (i4351 - j4352))) fun (i4363 : Int) =>
        slices_rotateCmpFunc_huff_packet__b6e1_b35e.l1 K m4193 k data4357 i4363 j4352)
        (
        (slices_swapRangeCmpFunc_huff_packet__b6e1_b35e.m K data4346 (w64 (m4193 - i4351)) (w64 ((w64 (m4193 + j4352)) - i4351)) i4351).bind fun data4365 =>
        lt ((w64 (j4352 - i4351))) fun (j4371 : Int) =>
        slices_rotateCmpFunc_huff_packet__b6e1_b35e.l1 K m4193 k data4365 i4351 j4371))
      (
      slices_rotateCmpFunc_huff_packet__b6e1_b35e.j2 K m4193 data4346 i4351)

def slices_rotateCmpFunc_huff_packet__b6e1_b35e.m (K : Nat) (data4184 : List T_huff_packet) (a_4192 : Int) (m4193 : Int) (b_4194 : Int) : Res (List T_huff_packet) :=
  lt ((w64 (m4193 - a_4192))) fun (i4197 : Int) =>
  lt ((w64 (b_4194 - m4193))) fun (j4198 : Int) =>
  slices_rotateCmpFunc_huff_packet__b6e1_b35e.l1 K m4193 K data4184 i4197 j4198

def slices_symMergeCmpFunc_huff_packet__b6e1_b35e.l3 (K : Nat) (rc : (List T_huff_packet) → Int → Int → Int → Res (List T_huff_packet)) (i4453 : Int) : Nat → (List T_huff_packet) → Int → Res (List T_huff_packet)
  | 0, _, _ => .fail
  | k + 1, data4505, k_4510 =>
    cond (decide (k_4510 < (w64 (i4453 - (1 : Int)))))
      (
      chk (inb (w64 (k_4510 + (1 : Int))) data4505.length) <|
      chk (inb k_4510 data4505.length) <|
      lt (data4505.set (Int.toNat k_4510) (T_huff_packet.mk ((rd data4505 (w64 (k_4510 + (1 : Int)))).often_) ((rd data4505 (w64 (k_4510 + (1 : Int)))).symbols_))) fun (zs4534 : (List T_huff_packet)) =>
      chk (inb (w64 (k_4510 + (1 : Int))) zs4534.length) <|
      lt (zs4534.set (Int.toNat (w64 (k_4510 + (1 : Int)))) (T_huff_packet.mk ((rd data4505 k_4510).often_) ((rd data4505 k_4510).symbols_))) fun (zs4547 : (List T_huff_packet)) =>
      lt ((w64 (k_4510 + (1 : Int)))) fun (k_4551 : Int) =>
      slices_symMergeCmpFunc_huff_packet__b6e1_b35e.l3 K rc i4453 k zs4547 k_4551)
      (
      .ok data4505)

def slices_symMergeCmpFunc_huff_packet__b6e1_b35e.j2 (K : Nat) (rc : (List T_huff_packet) → Int → Int → Int → Res (List T_huff_packet)) (data4416 : List T_huff_packet) (a_4424 : Int) (i4453 : Int) : Res (List T_huff_packet) :=
  slices_symMergeCmpFunc_huff_packet__b6e1_b35e.l3 K rc i4453 K data4416 a_4424

def slices_symMergeCmpFunc_huff_packet__b6e1_b35e.l1 (K : Nat) (rc : (List T_huff_packet) → Int → Int → Int → Res (List T_huff_packet)) (data4416 : List T_huff_packet) (a_4424 : Int) : Nat → Int → Int → Res (List T_huff_packet)
  | 0, _, _ => .fail
  | k + 1, i4430, j4431 =>
    cond (decide (i4430 < j4431))
      (
      lt ((wr .i64 (ishr .u64 (wr .u64 (w64 (i4430 + j4431))) (1 : Int)))) fun (h4434 : Int) =>
      chk (inb h4434 data4416.length) <|
      chk (inb a_4424 data4416.length) <|
      (huff_merged_1.m K (T_huff_packet.mk ((rd data4416 h4434).often_) ((rd data4416 h4434).symbols_)) (T_huff_packet.mk ((rd data4416 a_4424).often_) ((rd data4416 a_4424).symbols_))).bind fun x4449 =>
      cond (decide (x4449 < (0 : Int)))
        (
        lt ((w64 (h4434 + (1 : Int)))) fun (i4451 : Int) =>
        slices_symMergeCmpFunc_huff_packet__b6e1_b35e.l1 K rc data4416 a_4424 k i4451 j4431)
        (
        slices_symMergeCmpFunc_huff_packet__b6e1_b35e.l1 K rc data4416 a_4424 k i4430 h4434))
      (
      slices_symMergeCmpFunc_huff_packet__b6e1_b35e.j2 K rc data4416 a_4424 i4430)

def slices_symMergeCmpFunc_huff_packet__b6e1_b35e.l7 (K : Nat) (rc : (List T_huff_packet) → Int → Int → Int → Res (List T_huff_packet)) (i4578 : Int) : Nat → (List T_huff_packet) → Int → Res (List T_huff_packet)
  | 0, _, _ => .fail
  | k + 1, data4630, k_4635 =>
    cond (decide (k_4635 > i4578))
      (
      chk (inb (w64 (k_4635 - (1 : Int))) data4630.length) <|
      chk (inb k_4635 data4630.length) <|
      lt (data4630.set (Int.toNat k_4635) (T_huff_packet.mk ((rd data4630 (w64 (k_4635 - (1 : Int)))).often_) ((rd data4630 (w64 (k_4635 - (1 : Int)))).symbols_))) fun (zs4659 : (List T_huff_packet)) =>
      chk (inb (w64 (k_4635 - (1 : Int))) zs4659.length) <|
      lt (zs4659.set (Int.toNat (w64 (k_4635 - (1 : Int)))) (T_huff_packet.mk ((rd data4630 k_4635).often_) ((rd data4630 k_4635).symbols_))) fun (zs4672 : (List T_huff_packet)) =>
      lt ((w64 (k_4635 - (1 : Int)))) fun (k_4676 : Int) =>
      slices_symMergeCmpFunc_huff_packet__b6e1_b35e.l7 K rc i4578 k zs4672 k_4676)
      (
      .ok data4630)

def slices_symMergeCmpFunc_huff_packet__b6e1_b35e.j6 (K : Nat) (rc : (List T_huff_packet) → Int → Int → Int → Res (List T_huff_packet)) (data4416 : List T_huff_packet) (m4425 : Int) (i4578 : Int) : Res (List T_huff_packet) :=
  slices_symMergeCmpFunc_huff_packet__b6e1_b35e.l7 K rc i4578 K data4416 m4425

def slices_symMergeCmpFunc_huff_packet__b6e1_b35e.l5 (K : Nat) (rc : (List T_huff_packet) → Int → Int → Int → Res (List T_huff_packet)) (data4416 : List T_huff_packet) (m4425 : Int) : Nat → Int → Int → Res (List T_huff_packet)
  | 0, _, _ => .fail
  | k + 1, i4555, j4556 =>
    cond (decide (i4555 < j4556))
      (
      lt ((wr .i64 (ishr .u64 (wr .u64 (w64 (i4555 + j4556))) (1 : Int)))) fun (h4559 : Int) =>
      chk (inb m4425 data4416.length) <|
      chk (inb h4559 data4416.length) <|
      (huff_merged_1.m K (T_huff_packet.mk ((rd data4416 m4425).often_) ((rd data4416 m4425).symbols_)) (T_huff_packet.mk ((rd data4416 h4559).often_) ((rd data4416 h4559).symbols_))).bind fun x4574 =>
      cond (!(decide (x4574 < (0 : Int))))
        (
        lt ((w64 (h4559 + (1 : Int)))) fun (i4576 : Int) =>
        slices_symMergeCmpFunc_huff_packet__b6e1_b35e.l5 K rc data4416 m4425 k i4576 j4556)
        (
        slices_symMergeCmpFunc_huff_packet__b6e1_b35e.l5 K rc data4416 m4425 k i4555 h4559))
      (
      slices_symMergeCmpFunc_huff_packet__b6e1_b35e.j6 K rc data4416 m4425 i4555)

def slices_symMergeCmpFunc_huff_packet__b6e1_b35e.j13 (K : Nat) (rc : (List T_huff_packet) → Int → Int → Int → Res (List T_huff_packet)) (b_4426 : Int) (mid4679 : Int) (end_4712 : Int) (data4737 : (List T_huff_packet)) : Res (List T_huff_packet) :=
  cond ((decide (mid4679 < end_4712)) && (decide (end_4712 < b_4426)))
    (
    (rc data4737 mid4679 end_4712 b_4426).bind fun data4745 =>
    .ok data4745)
    (
    .ok data4737)

def slices_symMergeCmpFunc_huff_packet__b6e1_b35e.j12 (K : Nat) (rc : (List T_huff_packet) → Int → Int → Int → Res (List T_huff_packet)) (a_4424 : Int) (b_4426 : Int) (mid4679 : Int) (start4710 : Int) (end_4712 : Int) (data4722 : (List T_huff_packet)) : Res (List T_huff_packet) :=
  cond ((decide (a_4424 < start4710)) && (decide (start4710 < mid4679)))
    (
    (rc data4722 a_4424 start4710 mid4679).bind fun data4730 =>
    slices_symMergeCmpFunc_huff_packet__b6e1_b35e.j13 K rc b_4426 mid4679 end_4712 data4730)
    (
    slices_symMergeCmpFunc_huff_packet__b6e1_b35e.j13 K rc b_4426 mid4679 end_4712 data4722)

def slices_symMergeCmpFunc_huff_packet__b6e1_b35e.j11 (K : Nat) (rc : (List T_huff_packet) → Int → Int → Int → Res (List T_huff_packet)) (data4416 : List T_huff_packet) (a_4424 : Int) (m4425 : Int) (b_4426 : Int) (mid4679 : Int) (n_4680 : Int) (start4710 : Int) : Res (List T_huff_packet) :=
  lt ((w64 (n_4680 - start4710))) fun (end_4712 : Int) =>
  cond ((decide (start4710 < m4425)) && (decide (m4425 < end_4712)))
    (
    (slices_rotateCmpFunc_huff_packet__b6e1_b35e.m K data4416 start4710 m4425 end_4712).bind fun data4715 =>
    slices_symMergeCmpFunc_huff_packet__b6e1_b35e.j12 K rc a_4424 b_4426 mid4679 start4710 end_4712 data4715)
    (
    slices_symMergeCmpFunc_huff_packet__b6e1_b35e.j12 K rc a_4424 b_4426 mid4679 start4710 end_4712 data4416)

def slices_symMergeCmpFunc_huff_packet__b6e1_b35e.l10 (K : Nat) (rc : (List T_huff_packet) → Int → Int → Int → Res (List T_huff_packet)) (data4416 : List T_huff_packet) (a_4424 : Int) (m4425 : Int) (b_4426 : Int) (mid4679 : Int) (n_4680 : Int) (p4686 : Int) : Nat → Int → Int → Res (List T_huff_packet)
  | 0, _, _ => .fail
  | k + 1, start4687, r4688 =>
    cond (decide (start4687 < r4688))
      (
      lt ((wr .i64 (ishr .u64 (wr .u64 (w64 (start4687 + r4688))) (1 : Int)))) fun (c_4691 : Int) =>
      chk (inb (w64 (p4686 - c_4691)) data4416.length) <|
      chk (inb c_4691 data4416.length) <|
      (huff_merged_1.m K (T_huff_packet.mk ((rd data4416 (w64 (p4686 - c_4691))).often_) ((rd data4416 (w64 (p4686 - c_4691))).symbols_)) (T_huff_packet.mk ((rd data4416 c_4691).often_) ((rd data4416 c_4691).symbols_))).bind fun x4706 =>
      cond (!(decide (x4706 < (0 : Int))))
        (
        lt ((w64 (c_4691 + (1 : Int)))) fun (start4708 : Int) =>
        slices_symMergeCmpFunc_huff_packet__b6e1_b35e.l10 K rc data4416 a_4424 m4425 b_4426 mid4679 n_4680 p4686 k start4708 r4688)
        (
        slices_symMergeCmpFunc_huff_packet__b6e1_b35e.l10 K rc data4416 a_4424 m4425 b_4426 mid4679 n_4680 p4686 k start4687 c_4691))
      (
      slices_symMergeCmpFunc_huff_packet__b6e1_b35e.j11 K rc data4416 a_4424 m4425 b_4426 mid4679 n_4680 start4687)

def slices_symMergeCmpFunc_huff_packet__b6e1_b35e.j9 (K : Nat) (rc : (List T_huff_packet) → Int → Int → Int → Res (List T_huff_packet)) (data4416 : List T_huff_packet) (a_4424 : Int) (m4425 : Int) (b_4426 : Int) (mid4679 : Int) (n_4680 : Int) (start4683 : Int) (r4684 : Int) : Res (List T_huff_packet) :=
  lt ((w64 (n_4680 - (1 : Int)))) fun (p4686 : Int) =>
  slices_symMergeCmpFunc_huff_packet__b6e1_b35e.l10 K rc data4416 a_4424 m4425 b_4426 mid4679 n_4680 p4686 K start4683 r4684

def slices_symMergeCmpFunc_huff_packet__b6e1_b35e.j8 (K : Nat) (rc : (List T_huff_packet) → Int → Int → Int → Res (List T_huff_packet)) (data4416 : List T_huff_packet) (a_4424 : Int) (m4425 : Int) (b_4426 : Int) : Res (List T_huff_packet) :=
  lt ((wr .i64 (ishr .u64 (wr .u64 (w64 (a_4424 + b_4426))) (1 : Int)))) fun (mid4679 : Int) =>
  lt ((w64 (mid4679 + m4425))) fun (n_4680 : Int) =>
  cond (decide (m4425 > mid4679))
    (
    lt ((w64 (n_4680 - b_4426))) fun (start4682 : Int) =>
    slices_symMergeCmpFunc_huff_packet__b6e1_b35e.j9 K rc data4416 a_4424 m4425 b_4426 mid4679 n_4680 start4682 mid4679)
    (
    slices_symMergeCmpFunc_huff_packet__b6e1_b35e.j9 K rc data4416 a_4424 m4425 b_4426 mid4679 n_4680 a_4424 m4425)

def slices_symMergeCmpFunc_huff_packet__b6e1_b35e.j4 (K : Nat) (rc : (List T_huff_packet) → Int → Int → Int → Res (List T_huff_packet)) (data4416 : List T_huff_packet) (a_4424 : Int) (m4425 : Int) (b_4426 : Int) : Res (List T_huff_packet) :=
  cond ((w64 (b_4426 - m4425)) == (1 : Int))
    (
    slices_symMergeCmpFunc_huff_packet__b6e1_b35e.l5 K rc data4416 m4425 K a_4424 m4425)
    (
    slices_symMergeCmpFunc_huff_packet__b6e1_b35e.j8 K rc data4416 a_4424 m4425 b_4426)

def slices_symMergeCmpFunc_huff_packet__b6e1_b35e.b (K : Nat) (rc : (List T_huff_packet) → Int → Int → Int → Res (List T_huff_packet)) (data4416 : List T_huff_packet) (a_4424 : Int) (m4425 : Int) (b_4426 : Int) : Res (List T_huff_packet) :=
  cond ((w64 (m4425 - a_4424)) == (1 : Int))
    (
    slices_symMergeCmpFunc_huff_packet__b6e1_b35e.l1 K rc data4416 a_4424 K m4425 b_4426)
    (
    slices_symMergeCmpFunc_huff_packet__b6e1_b35e.j4 K rc data4416 a_4424 m4425 b_4426)

def slices_symMergeCmpFunc_huff_packet__b6e1_b35e.r (K : Nat) : Nat → (List T_huff_packet) → Int → Int → Int → Res (List T_huff_packet)
  | 0 => fun _ _ _ _ => .fail
  | d + 1 => slices_symMergeCmpFunc_huff_packet__b6e1_b35e.b K (slices_symMergeCmpFunc_huff_packet__b6e1_b35e.r K d)

def slices_symMergeCmpFunc_huff_packet__b6e1_b35e.m (K : Nat) (data4416 : List T_huff_packet) (a_4424 : Int) (m4425 : Int) (b_4426 : Int) : Res (List T_huff_packet) := slices_symMergeCmpFunc_huff_packet__b6e1_b35e.r K K data4416 a_4424 m4425 b_4426

def slices_stableCmpFunc_huff_packet__b6e1_c92d.j5 (K : Nat) (g3 : (List T_huff_packet) → Int → Res (List T_huff_packet)) (n_3492 : Int) (blockSize4824 : Int) (data4868 : (List T_huff_packet)) (a_4873 : Int) : Res (List T_huff_packet) :=
  lt ((w64 (a_4873 + blockSize4824))) fun (m4875 : Int) =>
  cond (decide (m4875 < n_3492))
    (
    (slices_symMergeCmpFunc_huff_packet__b6e1_b35e.m K data4868 a_4873 m4875 n_3492).bind fun data4878 =>
    lt ((w64 (blockSize4824 * (2 : Int)))) fun (blockSize4884 : Int) =>
    g3 data4878 blockSize4884)
    (
    lt ((w64 (blockSize4824 * (2 : Int)))) fun (blockSize4885 : Int) =>
    g3 data4868 blockSize4885)

def slices_stableCmpFunc_huff_packet__b6e1_c92d.l4 (K : Nat) (g3 : (List T_huff_packet) → Int → Res (List T_huff_packet)) (n_3492 : Int) (blockSize4824 : Int) : Nat → (List T_huff_packet) → Int → Int → Res (List T_huff_packet)
  | 0, _, _, _ => .fail
  | k + 1, data4849, a_4854, b_4855 =>
    cond (decide (b_4855 ≤ n_3492))
      (
      (slices_symMergeCmpFunc_huff_packet__b6e1_b35e.m K data4849 a_4854 (w64 (a_4854 + blockSize4824)) b_4855).bind fun data4859 =>
      lt ((w64 (b_4855 + (w64 ((2 : Int) * blockSize4824))))) fun (b_4865 : Int) =>
      slices_stableCmpFunc_huff_packet__b6e1_c92d.l4 K g3 n_3492 blockSize4824 k data4859 b_4855 b_4865)
      (
      slices_stableCmpFunc_huff_packet__b6e1_c92d.j5 K (g3) n_3492 blockSize4824 data4849 a_4854)

def slices_stableCmpFunc_huff_packet__b6e1_c92d.l3 (K : Nat) (n_3492 : Int) : Nat → (List T_huff_packet) → Int → Res (List T_huff_packet)
  | 0, _, _ => .fail
  | k + 1, data4819, blockSize4824 =>
    cond (decide (blockSize4824 < n_3492))
      (
      lt ((w64 ((2 : Int) * blockSize4824))) fun (b_4827 : Int) =>
      slices_stableCmpFunc_huff_packet__b6e1_c92d.l4 K (slices_stableCmpFunc_huff_packet__b6e1_c92d.l3 K n_3492 k) n_3492 blockSize4824 K data4819 (0 : Int) b_4827)
      (
      .ok data4819)

def slices_stableCmpFunc_huff_packet__b6e1_c92d.j2 (K : Nat) (n_3492 : Int) (data3864 : (List T_huff_packet)) (a_3869 : Int) : Res (List T_huff_packet) :=
  (slices_insertionSortCmpFunc_huff_packet__b6e1_dee5.m K data3864 a_3869 n_3492).bind fun data3872 =>
  slices_stableCmpFunc_huff_packet__b6e1_c92d.l3 K n_3492 K data3872 (20 : Int)

def slices_stableCmpFunc_huff_packet__b6e1_c92d.l1 (K : Nat) (n_3492 : Int) : Nat → (List T_huff_packet) → Int → Int → Res (List T_huff_packet)
  | 0, _, _, _ => .fail
  | k + 1, data3845, a_3850, b_3851 =>
    cond (decide (b_3851 ≤ n_3492))
      (
      (slices_insertionSortCmpFunc_huff_packet__b6e1_dee5.m K data3845 a_3850 b_3851).bind fun data3855 =>
      lt ((w64 (b_3851 + (20 : Int)))) fun (b_3861 : Int) =>
      slices_stableCmpFunc_huff_packet__b6e1_c92d.l1 K n_3492 k data3855 b_3851 b_3861)
      (
      slices_stableCmpFunc_huff_packet__b6e1_c92d.j2 K n_3492 data3845 a_3850)

def slices_stableCmpFunc_huff_packet__b6e1_c92d.m (K : Nat) (data3484 : List T_huff_packet) (n_3492 : Int) : Res (List T_huff_packet) :=
  slices_stableCmpFunc_huff_packet__b6e1_c92d.l1 K n_3492 K data3484 (0 : Int) (20 : Int)

def slices_SortStableFunc___huff_packet_huff_packet__b6e1_f734.m (K : Nat) (x3474 : List T_huff_packet) : Res (List T_huff_packet) :=
  (slices_stableCmpFunc_huff_packet__b6e1_c92d.m K x3474 (x3474.length : Int)).bind fun data4894 =>
  .ok data4894

def huff_merged.m (K : Nat) (a_3309 : List T_huff_packet) (b_3317 : List T_huff_packet) : Res (List T_huff_packet) :=
  (slices_Concat___huff_packet_huff_packet_.m K ([a_3309, b_3317] : List (List T_huff_packet))).bind fun x3469 =>
  (slices_SortStableFunc___huff_packet_huff_packet__b6e1_f734.m K x3469).bind fun x4907 =>
  .ok x4907

def huff_Lengths.l8 (K : Nat) (g7 : (List Int) → Int → Res ((List Int) × Int)) (zs5033 : (List T_huff_packet)) (v5090 : Int) : Nat → (List Int) → Int → Res ((List Int) × Int)
  | 0, _, _ => .fail
  | k + 1, out5120, v5123 =>
    cond (decide (v5123 < (((rd zs5033 v5090).symbols_).length : Int)))
      (
      chk (inb v5123 ((rd zs5033 v5090).symbols_).length) <|
      lt ((rd ((rd zs5033 v5090).symbols_) v5123)) fun (s5127 : Int) =>
      chk (inb s5127 out5120.length) <|
      lt (out5120.set (Int.toNat s5127) (w64 ((rd out5120 s5127) + (1 : Int)))) fun (zs5131 : (List Int)) =>
      huff_Lengths.l8 K g7 zs5033 v5090 k zs5131 (w64 (v5123 + (1 : Int))))
      (
      g7 out5120 (w64 (v5090 + (1 : Int))))

def huff_Lengths.l7 (K : Nat) (zs5033 : (List T_huff_packet)) : Nat → (List Int) → Int → Res ((List Int) × Int)
  | 0, _, _ => .fail
  | k + 1, out5087, v5090 =>
    cond (decide (v5090 < (zs5033.length : Int)))
      (
      chk (inb v5090 zs5033.length) <|
      huff_Lengths.l8 K (huff_Lengths.l7 K zs5033 k) zs5033 v5090 K out5087 (0 : Int))
      (
      .ok (out5087, (0 : Int)))

def huff_Lengths.j6 (K : Nat) (out1559 : (List Int)) (x3010 : (List T_huff_packet)) (row5026 : (List T_huff_packet)) : Res ((List Int) × Int) :=
  chk (subok (0 : Int) (w64 ((w64 ((2 : Int) * (x3010.length : Int))) - (2 : Int))) row5026.length) <|
  lt (sub row5026 (0 : Int) (w64 ((w64 ((2 : Int) * (x3010.length : Int))) - (2 : Int)))) fun (zs5033 : (List T_huff_packet)) =>
  huff_Lengths.l7 K zs5033 K out1559 (0 : Int)

def huff_Lengths.l5 (K : Nat) (most1413 : Int) (out1559 : (List Int)) (x3010 : (List T_huff_packet)) : Nat → (List T_huff_packet) → Int → Res ((List Int) × Int)
  | 0, _, _ => .fail
  | k + 1, row4973, v4977 =>
    cond (decide (v4977 < (w64 (most1413 - (1 : Int)))))
      (
      (huff_pairs.m K row4973).bind fun x4984 =>
      (huff_merged.m K x3010 x4984).bind fun x4998 =>
      huff_Lengths.l5 K most1413 out1559 x3010 k x4998 (w64 (v4977 + (1 : Int))))
      (
      huff_Lengths.j6 K out1559 x3010 row4973)

def huff_Lengths.j4 (K : Nat) (most1413 : Int) (single1531 : (List T_huff_packet)) (out1559 : (List Int)) : Res ((List Int) × Int) :=
  cond (decide ((single1531.length : Int) < (2 : Int)))
    (
    .ok (out1559, (0 : Int)))
    (
    (slices_SortStableFunc___huff_packet_huff_packet__b6e1_f289.m K single1531).bind fun x3010 =>
    huff_Lengths.l5 K most1413 out1559 x3010 K x3010 (0 : Int))

def huff_Lengths.j3 (K : Nat) (often1408 : List Int) (most1413 : Int) (single1531 : (List T_huff_packet)) : Res ((List Int) × Int) :=
  chk (decide (0 ≤ most1413)) <|
  cond (decide ((single1531.length : Int) > (ishl .i64 (1 : Int) most1413)))
    (
    .ok (([] : List Int), (1 : Int)))
    (
    chk (decide (0 ≤ (often1408.length : Int)) && room (Int.toNat (often1408.length : Int)) 8) <|
    lt (List.replicate (Int.toNat (often1408.length : Int)) (0 : Int)) fun (zs1545 : (List Int)) =>
    cond ((single1531.length : Int) == (1 : Int))
      (
      chk (inb (0 : Int) single1531.length) <|
      chk (inb (0 : Int) ((rd single1531 (0 : Int)).symbols_).length) <|
      chk (inb (rd ((rd single1531 (0 : Int)).symbols_) (0 : Int)) zs1545.length) <|
      lt (zs1545.set (Int.toNat (rd ((rd single1531 (0 : Int)).symbols_) (0 : Int))) (1 : Int)) fun (zs1557 : (List Int)) =>
      huff_Lengths.j4 K most1413 single1531 zs1557)
      (
      huff_Lengths.j4 K most1413 single1531 zs1545))

def huff_Lengths.l2 (K : Nat) (often1408 : List Int) (most1413 : Int) : Nat → (List T_huff_packet) → Int → Res ((List Int) × Int)
  | 0, _, _ => .fail
  | k + 1, single1493, v1497 =>
    cond (decide (v1497 < (often1408.length : Int)))
      (
      chk (inb v1497 often1408.length) <|
      lt ((rd often1408 v1497)) fun (n_1501 : Int) =>
      cond (decide (n_1501 > (0 : Int)))
        (
        chk (room (single1493.length + ([(T_huff_packet.mk n_1501 ([v1497] : List Int))] : List T_huff_packet).length) 32) <|
        lt (single1493 ++ ([(T_huff_packet.mk n_1501 ([v1497] : List Int))] : List T_huff_packet)) fun (zs1524 : (List T_huff_packet)) =>
        huff_Lengths.l2 K often1408 most1413 k zs1524 (w64 (v1497 + (1 : Int))))
        (
        huff_Lengths.l2 K often1408 most1413 k single1493 (w64 (v1497 + (1 : Int)))))
      (
      huff_Lengths.j3 K often1408 most1413 single1493)

def huff_Lengths.j1 (K : Nat) (often1408 : List Int) (most1413 : Int) (v1442 : Bool) : Res ((List Int) × Int) :=
  cond v1442
    (
    .ok (([] : List Int), (1 : Int)))
    (
    huff_Lengths.l2 K often1408 most1413 K ([] : List T_huff_packet) (0 : Int))

def huff_Lengths.m (K : Nat) (often1408 : List Int) (most1413 : Int) : Res ((List Int) × Int) :=
  cond (((decide (most1413 < (1 : Int))) || (decide (most1413 > (15 : Int)))) || (decide ((often1408.length : Int) > (320 : Int))))
    (
    huff_Lengths.j1 K often1408 most1413 true)
    (
    (slices_ContainsFunc___int_int__5d67.m K often1408).bind fun x1441 =>
    huff_Lengths.j1 K often1408 most1413 x1441)

def deflate_own_fd7d.j4 (K : Nat)  (often1403 : (List Int)) : Res ((List Int) × (List Int)) :=
  (huff_Lengths.m K often1403 (15 : Int)).bind fun (x5143, x5145) =>
  .ok (x5143, often1403)

def deflate_own_fd7d.l3 (K : Nat)  : Nat → (List Int) → Int → Int → Res ((List Int) × (List Int))
  | 0, _, _, _ => .fail
  | k + 1, often1384, n_1388, i1389 =>
    cond (decide (n_1388 < (2 : Int)))
      (
      chk (inb i1389 often1384.length) <|
      cond ((rd often1384 i1389) == (0 : Int))
        (
        lt (often1384.set (Int.toNat i1389) (w64 ((rd often1384 i1389) + (1 : Int)))) fun (zs1396 : (List Int)) =>
        lt ((w64 (n_1388 + (1 : Int)))) fun (n_1399 : Int) =>
        lt ((w64 (i1389 + (1 : Int)))) fun (i1400 : Int) =>
        deflate_own_fd7d.l3 K k zs1396 n_1399 i1400)
        (
        lt ((w64 (i1389 + (1 : Int)))) fun (i1401 : Int) =>
        deflate_own_fd7d.l3 K k often1384 n_1388 i1401))
      (
      deflate_own_fd7d.j4 K often1384)

def deflate_own_fd7d.j2 (K : Nat) (often1346 : List Int) (n_1362 : Int) : Res ((List Int) × (List Int)) :=
  deflate_own_fd7d.l3 K K often1346 n_1362 (0 : Int)

def deflate_own_fd7d.l1 (K : Nat) (often1346 : List Int) : Nat → Int → Int → Res ((List Int) × (List Int))
  | 0, _, _ => .fail
  | k + 1, n_1354, v1355 =>
    cond (decide (v1355 < (often1346.length : Int)))
      (
      chk (inb v1355 often1346.length) <|
      lt ((rd often1346 v1355)) fun (k_1359 : Int) =>
      lt ((w64 (n_1354 + (if (1 : Int) < k_1359 then (1 : Int) else k_1359)))) fun (n_1360 : Int) =>
      deflate_own_fd7d.l1 K often1346 k n_1360 (w64 (v1355 + (1 : Int))))
      (
      deflate_own_fd7d.j2 K often1346 n_1354)

def deflate_own_fd7d.m (K : Nat) (often1346 : List Int) : Res ((List Int) × (List Int)) :=
  deflate_own_fd7d.l1 K often1346 K (0 : Int) (0 : Int)

def deflate_packed.j4 (K : Nat) (g1 : (List T_deflate_item) → Int → Res (List T_deflate_item)) (row5205 : List Int) (out5292 : (List T_deflate_item)) (i5295 : Int) (n_5310 : Int) : Res (List T_deflate_item) :=
  chk (inb i5295 row5205.length) <|
  lt ((((rd row5205 i5295) == (0 : Int)) && (decide (n_5310 ≥ (11 : Int))))) fun (v5313 : Bool) =>
  cond v5313
    (
    lt ((if (138 : Int) < n_5310 then (138 : Int) else n_5310)) fun (n_5315 : Int) =>
    chk (room (out5292.length + ([(T_deflate_item.mk (18 : Int) (w64 (n_5315 - (11 : Int))) (7 : Int))] : List T_deflate_item).length) 24) <|
    lt (out5292 ++ ([(T_deflate_item.mk (18 : Int) (w64 (n_5315 - (11 : Int))) (7 : Int))] : List T_deflate_item)) fun (zs5325 : (List T_deflate_item)) =>
    lt ((w64 (i5295 + n_5315))) fun (i5326 : Int) =>
    g1 zs5325 i5326)
    (
    lt ((((rd row5205 i5295) == (0 : Int)) && (decide (n_5310 ≥ (3 : Int))))) fun (v5327 : Bool) =>
    cond v5327
      (
      chk (room (out5292.length + ([(T_deflate_item.mk (17 : Int) (w64 (n_5310 - (3 : Int))) (3 : Int))] : List T_deflate_item).length) 24) <|
      lt (out5292 ++ ([(T_deflate_item.mk (17 : Int) (w64 (n_5310 - (3 : Int))) (3 : Int))] : List T_deflate_item)) fun (zs5338 : (List T_deflate_item)) =>
      lt ((w64 (i5295 + n_5310))) fun (i5339 : Int) =>
      g1 zs5338 i5339)
      (
      lt ((decide (n_5310 ≥ (4 : Int)))) fun (v5340 : Bool) =>
      cond v5340
        (
        lt ((if (7 : Int) < n_5310 then (7 : Int) else n_5310)) fun (n_5342 : Int) =>
        chk (room (out5292.length + ([(T_deflate_item.mk (rd row5205 i5295) (0 : Int) (0 : Int)), (T_deflate_item.mk (16 : Int) (w64 (n_5342 - (4 : Int))) (2 : Int))] : List T_deflate_item).length) 24) <|
        lt (out5292 ++ ([(T_deflate_item.mk (rd row5205 i5295) (0 : Int) (0 : Int)), (T_deflate_item.mk (16 : Int) (w64 (n_5342 - (4 : Int))) (2 : Int))] : List T_deflate_item)) fun (zs5352 : (List T_deflate_item)) =>
        lt ((w64 (i5295 + n_5342))) fun (i5353 : Int) =>
        g1 zs5352 i5353)
        (
        chk (room (out5292.length + ([(T_deflate_item.mk (rd row5205 i5295) (0 : Int) (0 : Int))] : List T_deflate_item).length) 24) <|
        lt (out5292 ++ ([(T_deflate_item.mk (rd row5205 i5295) (0 : Int) (0 : Int))] : List T_deflate_item)) fun (zs5363 : (List T_deflate_item)) =>
        lt ((w64 (i5295 + (1 : Int)))) fun (i5364 : Int) =>
        g1 zs5363 i5364)))

def deflate_packed.j3 (K : Nat) (g1 : (List T_deflate_item) → Int → Res (List T_deflate_item)) (g2 : Int → Res (List T_deflate_item)) (row5205 : List Int) (out5292 : (List T_deflate_item)) (i5295 : Int) (n_5298 : Int) (v5305 : Bool) : Res (List T_deflate_item) :=
  cond v5305
    (
    lt ((w64 (n_5298 + (1 : Int)))) fun (n_5308 : Int) =>
    g2 n_5308)
    (
    deflate_packed.j4 K (g1) row5205 out5292 i5295 n_5298)

def deflate_packed.l2 (K : Nat) (g1 : (List T_deflate_item) → Int → Res (List T_deflate_item)) (row5205 : List Int) (out5292 : (List T_deflate_item)) (i5295 : Int) : Nat → Int → Res (List T_deflate_item)
  | 0, _ => .fail
  | k + 1, n_5298 =>
    cond (decide ((w64 (i5295 + n_5298)) < (row5205.length : Int)))
      (
      chk (inb (w64 (i5295 + n_5298)) row5205.length) <|
      chk (inb i5295 row5205.length) <|
      deflate_packed.j3 K (g1) (deflate_packed.l2 K g1 row5205 out5292 i5295 k) row5205 out5292 i5295 n_5298 ((rd row5205 (w64 (i5295 + n_5298))) == (rd row5205 i5295)))
      (
      deflate_packed.j3 K (g1) (deflate_packed.l2 K g1 row5205 out5292 i5295 k) row5205 out5292 i5295 n_5298 false)

def deflate_packed.l1 (K : Nat) (row5205 : List Int) : Nat → (List T_deflate_item) → Int → Res (List T_deflate_item)
  | 0, _, _ => .fail
  | k + 1, out5292, i5295 =>
    cond (decide (i5295 < (row5205.length : Int)))
      (
      deflate_packed.l2 K (deflate_packed.l1 K row5205 k) row5205 out5292 i5295 K (1 : Int))
      (
      .ok out5292)

def deflate_packed.m (K : Nat) (row5205 : List Int) : Res (List T_deflate_item) :=
  deflate_packed.l1 K row5205 K ([] : List T_deflate_item) (0 : Int)

def deflate_writer_symbol.l1 (K : Nat) (w_5575 : T_deflate_writer) (c_5599 : T_deflate_code) (s5608 : Int) : Nat → Int → (List Int) → Int → Res (Int × (List Int))
  | 0, _, _, _ => .fail
  | k + 1, at_5640, bytes5643, i5648 =>
    cond (decide (i5648 ≥ (0 : Int)))
      (
      chk (inb s5608 c_5599.codes_.length) <|
      chk (decide (0 ≤ i5648)) <|
      (bits_Writer_Put_deflate_writer.m K (T_deflate_writer.mk (T_bits_Writer.mk (T_bits_place.mk at_5640) bytes5643) w_5575.literals_ w_5575.distances_) (wr .u32 (iand .i64 (ishr .i64 (rd c_5599.codes_ s5608) i5648) (1 : Int))) (1 : Int)).bind fun (x5655, at_5656, bytes5659) =>
      lt ((w64 (i5648 - (1 : Int)))) fun (i5664 : Int) =>
      deflate_writer_symbol.l1 K w_5575 c_5599 s5608 k at_5656 bytes5659 i5664)
      (
      .ok (at_5640, bytes5643))

def deflate_writer_symbol.m (K : Nat) (w_5575 : T_deflate_writer) (c_5599 : T_deflate_code) (s5608 : Int) : Res (Int × (List Int)) :=
  chk (inb s5608 c_5599.lengths_.length) <|
  lt ((w64 ((rd c_5599.lengths_ s5608) - (1 : Int)))) fun (i5613 : Int) =>
  deflate_writer_symbol.l1 K w_5575 c_5599 s5608 K w_5575.Writer_.place_.at_ w_5575.Writer_.bytes_ i5613

def deflate_Dynamic.j12 (K : Nat) (l_1214 : List T_api_Token) (x5158 : (List Int)) (codes5167 : (List Int)) (x5172 : (List Int)) (codes5181 : (List Int)) (at_5735 : Int) (bytes5738 : (List Int)) : Res ((List UInt8) × Int) :=
  (deflate_writer_tokens.m K (T_deflate_writer.mk (T_bits_Writer.mk (T_bits_place.mk at_5735) bytes5738) (T_deflate_code.mk x5158 codes5167) (T_deflate_code.mk x5172 codes5181)) l_1214).bind fun (at_5744, bytes5747) =>
  (bits_Writer_String_deflate_writer.m K (T_deflate_writer.mk (T_bits_Writer.mk (T_bits_place.mk at_5744) bytes5747) (T_deflate_code.mk x5158 codes5167) (T_deflate_code.mk x5172 codes5181))).bind fun x5752 =>
  .ok (x5752, (0 : Int))

def deflate_Dynamic.l11 (K : Nat) (l_1214 : List T_api_Token) (x5158 : (List Int)) (codes5167 : (List Int)) (x5172 : (List Int)) (codes5181 : (List Int)) (x5373 : (List T_deflate_item)) (x5453 : (List Int)) (codes5459 : (List Int)) : Nat → Int → (List Int) → Int → Res ((List UInt8) × Int)
  | 0, _, _, _ => .fail
  | k + 1, at_5700, bytes5703, v5708 =>
    cond (decide (v5708 < (x5373.length : Int)))
      (
      chk (inb v5708 x5373.length) <|
      (deflate_writer_symbol.m K (T_deflate_writer.mk (T_bits_Writer.mk (T_bits_place.mk at_5700) bytes5703) (T_deflate_code.mk x5158 codes5167) (T_deflate_code.mk x5172 codes5181)) (T_deflate_code.mk x5453 codes5459) ((rd x5373 v5708).symbol_)).bind fun (at_5717, bytes5720) =>
      (bits_Writer_Put_deflate_writer.m K (T_deflate_writer.mk (T_bits_Writer.mk (T_bits_place.mk at_5717) bytes5720) (T_deflate_code.mk x5158 codes5167) (T_deflate_code.mk x5172 codes5181)) (wr .u32 (rd x5373 v5708).more_) ((rd x5373 v5708).bits_)).bind fun (x5725, at_5726, bytes5729) =>
      deflate_Dynamic.l11 K l_1214 x5158 codes5167 x5172 codes5181 x5373 x5453 codes5459 k at_5726 bytes5729 (w64 (v5708 + (1 : Int))))
      (
      deflate_Dynamic.j12 K l_1214 x5158 codes5167 x5172 codes5181 at_5700 bytes5703)

def deflate_Dynamic.j10 (K : Nat) (l_1214 : List T_api_Token) (x5158 : (List Int)) (codes5167 : (List Int)) (x5172 : (List Int)) (codes5181 : (List Int)) (x5373 : (List T_deflate_item)) (x5453 : (List Int)) (codes5459 : (List Int)) (at_5557 : Int) (bytes5560 : (List Int)) : Res ((List UInt8) × Int) :=
  deflate_Dynamic.l11 K l_1214 x5158 codes5167 x5172 codes5181 x5373 x5453 codes5459 K at_5557 bytes5560 (0 : Int)

def deflate_Dynamic.l9 (K : Nat) (l_1214 : List T_api_Token) (x5158 : (List Int)) (codes5167 : (List Int)) (x5172 : (List Int)) (codes5181 : (List Int)) (x5373 : (List T_deflate_item)) (x5453 : (List Int)) (codes5459 : (List Int)) : Nat → Int → (List Int) → Int → Res ((List UInt8) × Int)
  | 0, _, _, _ => .fail
  | k + 1, at_5532, bytes5535, v5540 =>
    cond (decide (v5540 < (19 : Int)))
      (
      chk (inb v5540 19) <|
      lt ((rd tab_deflate_order v5540)) fun (s5544 : Int) =>
      chk (inb s5544 x5453.length) <|
      (bits_Writer_Put_deflate_writer.m K (T_deflate_writer.mk (T_bits_Writer.mk (T_bits_place.mk at_5532) bytes5535) (T_deflate_code.mk x5158 codes5167) (T_deflate_code.mk x5172 codes5181)) (wr .u32 (rd x5453 s5544)) (3 : Int)).bind fun (x5547, at_5548, bytes5551) =>
      deflate_Dynamic.l9 K l_1214 x5158 codes5167 x5172 codes5181 x5373 x5453 codes5459 k at_5548 bytes5551 (w64 (v5540 + (1 : Int))))
      (
      deflate_Dynamic.j10 K l_1214 x5158 codes5167 x5172 codes5181 x5373 x5453 codes5459 at_5532 bytes5535)

def deflate_Dynamic.j8 (K : Nat) (l_1214 : List T_api_Token) (x5158 : (List Int)) (codes5167 : (List Int)) (x5172 : (List Int)) (codes5181 : (List Int)) (x5373 : (List T_deflate_item)) (often5447 : (List Int)) : Res ((List UInt8) × Int) :=
  (huff_Lengths.m K often5447 (7 : Int)).bind fun (x5453, x5455) =>
  (deflate_coded.m K x5453).bind fun codes5459 =>
  (bits_Writer_Put_deflate_writer.m K (T_deflate_writer.mk (T_bits_Writer.mk (T_bits_place.mk (0 : Int)) ([] : List Int)) (T_deflate_code.mk x5158 codes5167) (T_deflate_code.mk x5172 codes5181)) (5 : Int) (3 : Int)).bind fun (x5471, at_5472, bytes5475) =>
  (bits_Writer_Put_deflate_writer.m K (T_deflate_writer.mk (T_bits_Writer.mk (T_bits_place.mk at_5472) bytes5475) (T_deflate_code.mk x5158 codes5167) (T_deflate_code.mk x5172 codes5181)) (29 : Int) (5 : Int)).bind fun (x5480, at_5481, bytes5484) =>
  (bits_Writer_Put_deflate_writer.m K (T_deflate_writer.mk (T_bits_Writer.mk (T_bits_place.mk at_5481) bytes5484) (T_deflate_code.mk x5158 codes5167) (T_deflate_code.mk x5172 codes5181)) (29 : Int) (5 : Int)).bind fun (x5489, at_5490, bytes5493) =>
  (bits_Writer_Put_deflate_writer.m K (T_deflate_writer.mk (T_bits_Writer.mk (T_bits_place.mk at_5490) bytes5493) (T_deflate_code.mk x5158 codes5167) (T_deflate_code.mk x5172 codes5181)) (15 : Int) (4 : Int)).bind fun (x5498, at_5499, bytes5502) =>
  deflate_Dynamic.l9 K l_1214 x5158 codes5167 x5172 codes5181 x5373 x5453 codes5459 K at_5499 bytes5502 (0 : Int)

def deflate_Dynamic.j7 (K : Nat) (l_1214 : List T_api_Token) (x5158 : (List Int)) (codes5167 : (List Int)) (x5172 : (List Int)) (codes5181 : (List Int)) (x5373 : (List T_deflate_item)) (often5418 : (List Int)) (n_5430 : Int) : Res ((List UInt8) × Int) :=
  cond (decide (n_5430 < (2 : Int)))
    (
    chk (inb (0 : Int) often5418.length) <|
    chk (inb (1 : Int) often5418.length) <|
    lt (often5418.set (Int.toNat (0 : Int)) (if (1 : Int) > (rd often5418 (0 : Int)) then (1 : Int) else (rd often5418 (0 : Int)))) fun (zs5439 : (List Int)) =>
    chk (inb (1 : Int) zs5439.length) <|
    lt (zs5439.set (Int.toNat (1 : Int)) (if (1 : Int) > (rd often5418 (1 : Int)) then (1 : Int) else (rd often5418 (1 : Int)))) fun (zs5445 : (List Int)) =>
    deflate_Dynamic.j8 K l_1214 x5158 codes5167 x5172 codes5181 x5373 zs5445)
    (
    deflate_Dynamic.j8 K l_1214 x5158 codes5167 x5172 codes5181 x5373 often5418)

def deflate_Dynamic.l6 (K : Nat) (l_1214 : List T_api_Token) (x5158 : (List Int)) (codes5167 : (List Int)) (x5172 : (List Int)) (codes5181 : (List Int)) (x5373 : (List T_deflate_item)) (often5418 : (List Int)) : Nat → Int → Int → Res ((List UInt8) × Int)
  | 0, _, _ => .fail
  | k + 1, n_5422, v5423 =>
    cond (decide (v5423 < (often5418.length : Int)))
      (
      chk (inb v5423 often5418.length) <|
      lt ((rd often5418 v5423)) fun (k_5427 : Int) =>
      lt ((w64 (n_5422 + (if (1 : Int) < k_5427 then (1 : Int) else k_5427)))) fun (n_5428 : Int) =>
      deflate_Dynamic.l6 K l_1214 x5158 codes5167 x5172 codes5181 x5373 often5418 k n_5428 (w64 (v5423 + (1 : Int))))
      (
      deflate_Dynamic.j7 K l_1214 x5158 codes5167 x5172 codes5181 x5373 often5418 n_5422)

def deflate_Dynamic.j5 (K : Nat) (l_1214 : List T_api_Token) (x5158 : (List Int)) (codes5167 : (List Int)) (x5172 : (List Int)) (codes5181 : (List Int)) (x5373 : (List T_deflate_item)) (often5418 : (List Int)) : Res ((List UInt8) × Int) :=
  deflate_Dynamic.l6 K l_1214 x5158 codes5167 x5172 codes5181 x5373 often5418 K (0 : Int) (0 : Int)

def deflate_Dynamic.l4 (K : Nat) (l_1214 : List T_api_Token) (x5158 : (List Int)) (codes5167 : (List Int)) (x5172 : (List Int)) (codes5181 : (List Int)) (x5373 : (List T_deflate_item)) : Nat → (List Int) → Int → Res ((List UInt8) × Int)
  | 0, _, _ => .fail
  | k + 1, often5400, v5403 =>
    cond (decide (v5403 < (x5373.length : Int)))
      (
      chk (inb v5403 x5373.length) <|
      chk (inb (rd x5373 v5403).symbol_ often5400.length) <|
      lt (often5400.set (Int.toNat (rd x5373 v5403).symbol_) (w64 ((rd often5400 (rd x5373 v5403).symbol_) + (1 : Int)))) fun (zs5415 : (List Int)) =>
      deflate_Dynamic.l4 K l_1214 x5158 codes5167 x5172 codes5181 x5373 k zs5415 (w64 (v5403 + (1 : Int))))
      (
      deflate_Dynamic.j5 K l_1214 x5158 codes5167 x5172 codes5181 x5373 often5400)

def deflate_Dynamic.j3 (K : Nat) (l_1214 : List T_api_Token) (literals1339 : (List Int)) (distances1342 : (List Int)) : Res ((List UInt8) × Int) :=
  (deflate_own_fd7d.m K literals1339).bind fun (x5158, often5160) =>
  (deflate_coded.m K x5158).bind fun codes5167 =>
  (deflate_own_fd7d.m K distances1342).bind fun (x5172, often5174) =>
  (deflate_coded.m K x5172).bind fun codes5181 =>
  chk (room (([] : List Int).length + x5158.length) 8) <|
  lt (([] : List Int) ++ x5158) fun (zs5198 : (List Int)) =>
  chk (room (zs5198.length + x5172.length) 8) <|
  lt (zs5198 ++ x5172) fun (zs5204 : (List Int)) =>
  (deflate_packed.m K zs5204).bind fun x5373 =>
  chk (decide (0 ≤ (19 : Int)) && room (Int.toNat (19 : Int)) 8) <|
  lt (List.replicate (Int.toNat (19 : Int)) (0 : Int)) fun (zs5381 : (List Int)) =>
  deflate_Dynamic.l4 K l_1214 x5158 codes5167 x5172 codes5181 x5373 K zs5381 (0 : Int)

def deflate_Dynamic.l2 (K : Nat) (l_1214 : List T_api_Token) : Nat → (List Int) → (List Int) → Int → Res ((List UInt8) × Int)
  | 0, _, _, _ => .fail
  | k + 1, literals1301, distances1304, v1307 =>
    cond (decide (v1307 < (l_1214.length : Int)))
      (
      chk (inb v1307 l_1214.length) <|
      cond ((rd l_1214 v1307).Dist_ == (0 : Int))
        (
        chk (inb (rd l_1214 v1307).Lit_ literals1301.length) <|
        lt (literals1301.set (Int.toNat (rd l_1214 v1307).Lit_) (w64 ((rd literals1301 (rd l_1214 v1307).Lit_) + (1 : Int)))) fun (zs1320 : (List Int)) =>
        deflate_Dynamic.l2 K l_1214 k zs1320 distances1304 (w64 (v1307 + (1 : Int))))
        (
        (deflate_length.m K ((rd l_1214 v1307).Len_)).bind fun (symbol1322, bits1323, more1324) =>
        chk (inb symbol1322 literals1301.length) <|
        lt (literals1301.set (Int.toNat symbol1322) (w64 ((rd literals1301 symbol1322) + (1 : Int)))) fun (zs1328 : (List Int)) =>
        (deflate_distance.m K ((rd l_1214 v1307).Dist_)).bind fun (symbol1330, bits1331, more1332) =>
        chk (inb symbol1330 distances1304.length) <|
        lt (distances1304.set (Int.toNat symbol1330) (w64 ((rd distances1304 symbol1330) + (1 : Int)))) fun (zs1336 : (List Int)) =>
        deflate_Dynamic.l2 K l_1214 k zs1328 zs1336 (w64 (v1307 + (1 : Int)))))
      (
      deflate_Dynamic.j3 K l_1214 literals1301 distances1304)

def deflate_Dynamic.j1 (K : Nat) (l_1214 : List T_api_Token) (literals1249 : (List Int)) (distances1254 : (List Int)) : Res ((List UInt8) × Int) :=
  chk (inb (256 : Int) literals1249.length) <|
  lt (literals1249.set (Int.toNat (256 : Int)) (w64 ((rd literals1249 (256 : Int)) + (1 : Int)))) fun (zs1261 : (List Int)) =>
  deflate_Dynamic.l2 K l_1214 K zs1261 distances1254 (0 : Int)

def deflate_Dynamic.m (K : Nat) (l_1214 : List T_api_Token) : Res ((List UInt8) × Int) :=
  (deflate_fine.m K l_1214).bind fun x1219 =>
  cond (!x1219)
    (
    .ok (([] : List UInt8), (1 : Int)))
    (
    chk (decide (0 ≤ (286 : Int)) && room (Int.toNat (286 : Int)) 8) <|
    lt (List.replicate (Int.toNat (286 : Int)) (0 : Int)) fun (zs1222 : (List Int)) =>
    chk (decide (0 ≤ (30 : Int)) && room (Int.toNat (30 : Int)) 8) <|
    lt (List.replicate (Int.toNat (30 : Int)) (0 : Int)) fun (zs1225 : (List Int)) =>
    deflate_Dynamic.j1 K l_1214 zs1222 zs1225)

def deflate_Stored.j2 (K : Nat) (g1 : (List UInt8) → (List Int) → Res (List UInt8)) (s5793 : List UInt8) (b_5796 : (List Int)) (n_5800 : Int) (last5802 : Int) : Res (List UInt8) :=
  chk (room (b_5796.length + ([last5802, (wr .u8 n_5800), (wr .u8 (ishr .i64 n_5800 (8 : Int))), (inot .u8 (wr .u8 n_5800)), (inot .u8 (wr .u8 (ishr .i64 n_5800 (8 : Int))))] : List Int).length) 1) <|
  lt (b_5796 ++ ([last5802, (wr .u8 n_5800), (wr .u8 (ishr .i64 n_5800 (8 : Int))), (inot .u8 (wr .u8 n_5800)), (inot .u8 (wr .u8 (ishr .i64 n_5800 (8 : Int))))] : List Int)) fun (zs5813 : (List Int)) =>
  chk (subok (0 : Int) n_5800 s5793.length) <|
  chk (room (zs5813.length + (sub s5793 (0 : Int) n_5800).length) 1) <|
  lt (zs5813 ++ (sub s5793 (0 : Int) n_5800).map ofb) fun (zs5820 : (List Int)) =>
  chk (subok n_5800 (s5793.length : Int) s5793.length) <|
  lt ((sub s5793 n_5800 (s5793.length : Int))) fun (s5822 : List UInt8) =>
  cond (last5802 == (1 : Int))
    (
    lt ((zs5820.map tob)) fun (v5824 : List UInt8) =>
    .ok v5824)
    (
    g1 s5822 zs5820)

def deflate_Stored.l1 (K : Nat)  : Nat → (List UInt8) → (List Int) → Res (List UInt8)
  | 0, _, _ => .fail
  | k + 1, s5793, b_5796 =>
    lt ((if (s5793.length : Int) < (65535 : Int) then (s5793.length : Int) else (65535 : Int))) fun (n_5800 : Int) =>
    cond (n_5800 == (s5793.length : Int))
      (
      deflate_Stored.j2 K (deflate_Stored.l1 K k) s5793 b_5796 n_5800 (1 : Int))
      (
      deflate_Stored.j2 K (deflate_Stored.l1 K k) s5793 b_5796 n_5800 (0 : Int))

def deflate_Stored.m (K : Nat) (s5757 : List UInt8) : Res (List UInt8) :=
  deflate_Stored.l1 K K s5757 ([] : List Int)

def match_finder_at.m (K : Nat) (f_5861 : T_match_finder) (i5868 : Int) : Res Unit :=
  chk (inb i5868 f_5861.text_.length) <|
  chk (inb (w64 (i5868 + (1 : Int))) f_5861.text_.length) <|
  chk (inb (w64 (i5868 + (2 : Int))) f_5861.text_.length) <|
  .ok ()

def match_finder_long.j2 (K : Nat) (g1 : Int → Res Int) (n_5900 : Int) (v5908 : Bool) : Res Int :=
  cond v5908
    (
    lt ((w64 (n_5900 + (1 : Int)))) fun (n_5911 : Int) =>
    g1 n_5911)
    (
    .ok n_5900)

def match_finder_long.l1 (K : Nat) (f_5891 : T_match_finder) (a_5898 : Int) (b_5899 : Int) : Nat → Int → Res Int
  | 0, _ => .fail
  | k + 1, n_5900 =>
    cond (decide (n_5900 < (258 : Int)))
      (
      cond (decide ((w64 (b_5899 + n_5900)) < (f_5891.text_.length : Int)))
        (
        chk (inb (w64 (a_5898 + n_5900)) f_5891.text_.length) <|
        chk (inb (w64 (b_5899 + n_5900)) f_5891.text_.length) <|
        match_finder_long.j2 K (match_finder_long.l1 K f_5891 a_5898 b_5899 k) n_5900 (((rd f_5891.text_ (w64 (a_5898 + n_5900))).toNat : Int) == ((rd f_5891.text_ (w64 (b_5899 + n_5900))).toNat : Int)))
        (
        match_finder_long.j2 K (match_finder_long.l1 K f_5891 a_5898 b_5899 k) n_5900 false))
      (
      match_finder_long.j2 K (match_finder_long.l1 K f_5891 a_5898 b_5899 k) n_5900 false)

def match_finder_long.m (K : Nat) (f_5891 : T_match_finder) (a_5898 : Int) (b_5899 : Int) : Res Int :=
  match_finder_long.l1 K f_5891 a_5898 b_5899 K (0 : Int)

def match_finder_best.j2 (K : Nat)  (len5942 : Int) (dist5943 : Int) : Res (Int × Int) :=
  .ok (len5942, dist5943)

def match_finder_best.l1 (K : Nat) (f_5844 : T_match_finder) (i5851 : Int) (zs5880 : (List Int)) : Nat → Int → Int → Int → Res (Int × Int)
  | 0, _, _, _ => .fail
  | k + 1, len5925, dist5926, tries5929 =>
    cond ((decide (tries5929 < (32 : Int))) && (decide (tries5929 < (zs5880.length : Int))))
      (
      chk (inb (w64 ((w64 ((zs5880.length : Int) - (1 : Int))) - tries5929)) zs5880.length) <|
      lt ((rd zs5880 (w64 ((w64 ((zs5880.length : Int) - (1 : Int))) - tries5929)))) fun (p5933 : Int) =>
      cond (decide ((w64 (i5851 - p5933)) > (32768 : Int)))
        (
        match_finder_best.j2 K len5925 dist5926)
        (
        (match_finder_long.m K f_5844 p5933 i5851).bind fun x5935 =>
        cond (decide (x5935 > len5925))
          (
          lt ((w64 (tries5929 + (1 : Int)))) fun (tries5939 : Int) =>
          match_finder_best.l1 K f_5844 i5851 zs5880 k x5935 (w64 (i5851 - p5933)) tries5939)
          (
          lt ((w64 (tries5929 + (1 : Int)))) fun (tries5940 : Int) =>
          match_finder_best.l1 K f_5844 i5851 zs5880 k len5925 dist5926 tries5940)))
      (
      match_finder_best.j2 K len5925 dist5926)

def match_finder_best.m (K : Nat) (f_5844 : T_match_finder) (i5851 : Int) : Res (Int × Int) :=
  cond (decide ((w64 (i5851 + (3 : Int))) > (f_5844.text_.length : Int)))
    (
    .ok ((0 : Int), (0 : Int)))
    (
    (match_finder_at.m K f_5844 i5851).bind fun _ =>
    lt (mget f_5844.seen_ ([((rd f_5844.text_ i5851).toNat : Int), ((rd f_5844.text_ (w64 (i5851 + (1 : Int)))).toNat : Int), ((rd f_5844.text_ (w64 (i5851 + (2 : Int)))).toNat : Int)] : List Int)) fun (zs5880 : (List Int)) =>
    match_finder_best.l1 K f_5844 i5851 zs5880 K (0 : Int) (0 : Int) (0 : Int))

def match_finder_note.m (K : Nat) (f_5982 : T_match_finder) (i5989 : Int) : Res (List ((List Int) × (List Int))) :=
  cond (decide ((w64 (i5989 + (3 : Int))) ≤ (f_5982.text_.length : Int)))
    (
    (match_finder_at.m K f_5982 i5989).bind fun _ =>
    lt (mget f_5982.seen_ ([((rd f_5982.text_ i5989).toNat : Int), ((rd f_5982.text_ (w64 (i5989 + (1 : Int)))).toNat : Int), ((rd f_5982.text_ (w64 (i5989 + (2 : Int)))).toNat : Int)] : List Int)) fun (zs6000 : (List Int)) =>
    chk (room (zs6000.length + ([i5989] : List Int).length) 8) <|
    lt (zs6000 ++ ([i5989] : List Int)) fun (zs6015 : (List Int)) =>
    lt (mput f_5982.seen_ ([((rd f_5982.text_ i5989).toNat : Int), ((rd f_5982.text_ (w64 (i5989 + (1 : Int)))).toNat : Int), ((rd f_5982.text_ (w64 (i5989 + (2 : Int)))).toNat : Int)] : List Int) zs6015) fun (m6016 : (List ((List Int) × (List Int)))) =>
    .ok m6016)
    (
    .ok f_5982.seen_)

def match_Find.l3 (K : Nat) (g1 : (List ((List Int) × (List Int))) → (List T_api_Token) → Int → Res (List T_api_Token)) (s5830 : List UInt8) (len6075 : Int) (zs6089 : (List T_api_Token)) : Nat → (List ((List Int) × (List Int))) → Int → Int → Res (List T_api_Token)
  | 0, _, _, _ => .fail
  | k + 1, seen6103, i6106, v6107 =>
    cond (decide (v6107 < (if len6075 > (1 : Int) then len6075 else (1 : Int))))
      (
      (match_finder_note.m K (T_match_finder.mk s5830 seen6103) i6106).bind fun seen6110 =>
      lt ((w64 (i6106 + (1 : Int)))) fun (i6113 : Int) =>
      match_Find.l3 K g1 s5830 len6075 zs6089 k seen6110 i6113 (w64 (v6107 + (1 : Int))))
      (
      g1 seen6103 zs6089 i6106)

def match_Find.j2 (K : Nat) (g1 : (List ((List Int) × (List Int))) → (List T_api_Token) → Int → Res (List T_api_Token)) (s5830 : List UInt8) (seen6052 : (List ((List Int) × (List Int)))) (l_6057 : (List T_api_Token)) (i6060 : Int) (lit6074 : Int) (len6075 : Int) (dist6076 : Int) : Res (List T_api_Token) :=
  chk (room (l_6057.length + ([(T_api_Token.mk lit6074 len6075 dist6076)] : List T_api_Token).length) 24) <|
  lt (l_6057 ++ ([(T_api_Token.mk lit6074 len6075 dist6076)] : List T_api_Token)) fun (zs6089 : (List T_api_Token)) =>
  match_Find.l3 K (g1) s5830 len6075 zs6089 K seen6052 i6060 (0 : Int)

def match_Find.l1 (K : Nat) (s5830 : List UInt8) : Nat → (List ((List Int) × (List Int))) → (List T_api_Token) → Int → Res (List T_api_Token)
  | 0, _, _, _ => .fail
  | k + 1, seen6052, l_6057, i6060 =>
    cond (decide (i6060 < (s5830.length : Int)))
      (
      (match_finder_best.m K (T_match_finder.mk s5830 seen6052) i6060).bind fun (len6063, dist6064) =>
      cond (decide (len6063 < (3 : Int)))
        (
        chk (inb i6060 s5830.length) <|
        match_Find.j2 K (match_Find.l1 K s5830 k) s5830 seen6052 l_6057 i6060 ((rd s5830 i6060).toNat : Int) (0 : Int) (0 : Int))
        (
        match_Find.j2 K (match_Find.l1 K s5830 k) s5830 seen6052 l_6057 i6060 (0 : Int) len6063 dist6064))
      (
      .ok l_6057)

def match_Find.m (K : Nat) (s5830 : List UInt8) : Res (List T_api_Token) :=
  match_Find.l1 K s5830 K ([] : List ((List Int) × (List Int))) ([] : List T_api_Token) (0 : Int)

def deflate_Deflate.j1 (K : Nat) (x6123 : (List T_api_Token)) (best6130 : List UInt8) : Res (List UInt8) :=
  (deflate_Dynamic.m K x6123).bind fun (x6132, x6133) =>
  cond ((x6133 == (0 : Int)) && (decide ((x6132.length : Int) < (best6130.length : Int))))
    (
    .ok x6132)
    (
    .ok best6130)

def deflate_Deflate.m (K : Nat) (s5829 : List UInt8) : Res (List UInt8) :=
  (match_Find.m K s5829).bind fun x6123 =>
  (deflate_Stored.m K s5829).bind fun x6126 =>
  (deflate_Fixed.m K x6123).bind fun (x6127, x6128) =>
  cond ((x6128 == (0 : Int)) && (decide ((x6127.length : Int) < (x6126.length : Int))))
    (
    deflate_Deflate.j1 K x6123 x6127)
    (
    deflate_Deflate.j1 K x6123 x6126)

def mortiselaw09_live.j1 (K : Nat)  (v6137 : Bool) : Res Bool :=
  .ok v6137

def mortiselaw09_live.m (K : Nat) : Res Bool :=
  (deflate_Fixed.m K ([(T_api_Token.mk (97 : Int) (0 : Int) (0 : Int))] : List T_api_Token)).bind fun (x1208, x1209) =>
  (deflate_Dynamic.m K ([(T_api_Token.mk (0 : Int) (1 : Int) (0 : Int))] : List T_api_Token)).bind fun (x5755, x5756) =>
  (deflate_Stored.m K ([] : List UInt8)).bind fun x5827 =>
  cond ((((x5827 == ([1, 0, 0, 255, 255] : List UInt8)) && (x1208 == ([75, 4, 0] : List UInt8))) && (x1209 == (0 : Int))) && (x5756 == (1 : Int)))
    (
    (deflate_Deflate.m K ([] : List UInt8)).bind fun x6136 =>
    mortiselaw09_live.j1 K (!(x6136 == ([] : List UInt8))))
    (
    mortiselaw09_live.j1 K false)

def mortiseref09_Stored.j2 (K : Nat) (g1 : (List UInt8) → (List Int) → Res (List UInt8)) (s6178 : List UInt8) (out6181 : (List Int)) (n_6185 : Int) (last6187 : Int) : Res (List UInt8) :=
  chk (room (out6181.length + ([last6187, (wr .u8 (irem n_6185 (256 : Int))), (wr .u8 (iquo .i64 n_6185 (256 : Int))), (wr .u8 (w64 ((255 : Int) - (irem n_6185 (256 : Int))))), (wr .u8 (w64 ((255 : Int) - (iquo .i64 n_6185 (256 : Int)))))] : List Int).length) 1) <|
  lt (out6181 ++ ([last6187, (wr .u8 (irem n_6185 (256 : Int))), (wr .u8 (iquo .i64 n_6185 (256 : Int))), (wr .u8 (w64 ((255 : Int) - (irem n_6185 (256 : Int))))), (wr .u8 (w64 ((255 : Int) - (iquo .i64 n_6185 (256 : Int)))))] : List Int)) fun (zs6198 : (List Int)) =>
  chk (subok (0 : Int) n_6185 s6178.length) <|
  chk (room (zs6198.length + (sub s6178 (0 : Int) n_6185).length) 1) <|
  lt (zs6198 ++ (sub s6178 (0 : Int) n_6185).map ofb) fun (zs6205 : (List Int)) =>
  chk (subok n_6185 (s6178.length : Int) s6178.length) <|
  lt ((sub s6178 n_6185 (s6178.length : Int))) fun (s6207 : List UInt8) =>
  cond (last6187 == (1 : Int))
    (
    lt ((zs6205.map tob)) fun (v6209 : List UInt8) =>
    .ok v6209)
    (
    g1 s6207 zs6205)

def mortiseref09_Stored.l1 (K : Nat)  : Nat → (List UInt8) → (List Int) → Res (List UInt8)
  | 0, _, _ => .fail
  | k + 1, s6178, out6181 =>
    lt ((if (s6178.length : Int) < (65535 : Int) then (s6178.length : Int) else (65535 : Int))) fun (n_6185 : Int) =>
    cond (n_6185 == (s6178.length : Int))
      (
      mortiseref09_Stored.j2 K (mortiseref09_Stored.l1 K k) s6178 out6181 n_6185 (1 : Int))
      (
      mortiseref09_Stored.j2 K (mortiseref09_Stored.l1 K k) s6178 out6181 n_6185 (0 : Int))

def mortiseref09_Stored.m (K : Nat) (s6142 : List UInt8) : Res (List UInt8) :=
  mortiseref09_Stored.l1 K K s6142 ([] : List Int)

def mortiselaw09_DeflateStored.j1 (K : Nat)  (v6215 : Bool) : Res Bool :=
  .ok v6215

def mortiselaw09_DeflateStored.m (K : Nat) (s1 : List UInt8) : Res Bool :=
  cond (decide ((s1.length : Int) > (200000 : Int)))
    (
    (mortiselaw09_live.m K).bind fun x6140 =>
    .ok x6140)
    (
    (deflate_Stored.m K s1).bind fun x6141 =>
    (mortiseref09_Stored.m K s1).bind fun x6212 =>
    cond (x6141 == x6212)
      (
      (mortiselaw09_live.m K).bind fun x6214 =>
      mortiselaw09_DeflateStored.j1 K x6214)
      (
      mortiselaw09_DeflateStored.j1 K false))

def mortiseref07_Fixed.l3 (K : Nat) (l_6300 : (List Int)) : Nat → (List Int) → Int → Res ((List Int) × (List Int))
  | 0, _, _ => .fail
  | k + 1, d6323, i6326 =>
    cond (decide (i6326 < (32 : Int)))
      (
      chk (inb i6326 d6323.length) <|
      lt (d6323.set (Int.toNat i6326) (5 : Int)) fun (zs6332 : (List Int)) =>
      lt ((w64 (i6326 + (1 : Int)))) fun (i6334 : Int) =>
      mortiseref07_Fixed.l3 K l_6300 k zs6332 i6334)
      (
      .ok (l_6300, d6323))

def mortiseref07_Fixed.j2 (K : Nat)  (l_6300 : (List Int)) : Res ((List Int) × (List Int)) :=
  chk (decide (0 ≤ (32 : Int)) && room (Int.toNat (32 : Int)) 8) <|
  lt (List.replicate (Int.toNat (32 : Int)) (0 : Int)) fun (zs6309 : (List Int)) =>
  mortiseref07_Fixed.l3 K l_6300 K zs6309 (0 : Int)

def mortiseref07_Fixed.l1 (K : Nat)  : Nat → (List Int) → Int → Res ((List Int) × (List Int))
  | 0, _, _ => .fail
  | k + 1, l_6271, i6274 =>
    cond (decide (i6274 < (288 : Int)))
      (
      lt (((decide (i6274 < (144 : Int))) || (decide (i6274 > (279 : Int))))) fun (v6277 : Bool) =>
      cond v6277
        (
        chk (inb i6274 l_6271.length) <|
        lt (l_6271.set (Int.toNat i6274) (8 : Int)) fun (zs6282 : (List Int)) =>
        lt ((w64 (i6274 + (1 : Int)))) fun (i6284 : Int) =>
        mortiseref07_Fixed.l1 K k zs6282 i6284)
        (
        lt ((decide (i6274 < (256 : Int)))) fun (v6285 : Bool) =>
        cond v6285
          (
          chk (inb i6274 l_6271.length) <|
          lt (l_6271.set (Int.toNat i6274) (9 : Int)) fun (zs6290 : (List Int)) =>
          lt ((w64 (i6274 + (1 : Int)))) fun (i6292 : Int) =>
          mortiseref07_Fixed.l1 K k zs6290 i6292)
          (
          chk (inb i6274 l_6271.length) <|
          lt (l_6271.set (Int.toNat i6274) (7 : Int)) fun (zs6296 : (List Int)) =>
          lt ((w64 (i6274 + (1 : Int)))) fun (i6298 : Int) =>
          mortiseref07_Fixed.l1 K k zs6296 i6298)))
      (
      mortiseref07_Fixed.j2 K l_6271)

def mortiseref07_Fixed.m (K : Nat) : Res ((List Int) × (List Int)) :=
  chk (decide (0 ≤ (288 : Int)) && room (Int.toNat (288 : Int)) 8) <|
  lt (List.replicate (Int.toNat (288 : Int)) (0 : Int)) fun (zs6241 : (List Int)) =>
  mortiseref07_Fixed.l1 K K zs6241 (0 : Int)

def mortiseref06_Check.j4 (K : Nat) (sum6385 : Int) (v6393 : Bool) : Res Int :=
  cond (v6393 || (sum6385 == (32768 : Int)))
    (
    .ok (0 : Int))
    (
    .ok (3 : Int))

def mortiseref06_Check.j3 (K : Nat) (sum6385 : Int) (v6391 : Bool) : Res Int :=
  mortiseref06_Check.j4 K sum6385 v6391

def mortiseref06_Check.j2 (K : Nat)  (sum6385 : Int) (n_6386 : Int) (last6387 : Int) : Res Int :=
  cond (n_6386 == (0 : Int))
    (
    mortiseref06_Check.j4 K sum6385 true)
    (
    cond (n_6386 == (1 : Int))
      (
      mortiseref06_Check.j3 K sum6385 (last6387 == (1 : Int)))
      (
      mortiseref06_Check.j3 K sum6385 false))

def mortiseref06_Check.l1 (K : Nat) (l_6363 : List Int) : Nat → Int → Int → Int → Int → Res Int
  | 0, _, _, _, _ => .fail
  | k + 1, sum6369, n_6370, last6371, i6372 =>
    cond (decide (i6372 < (l_6363.length : Int)))
      (
      chk (inb i6372 l_6363.length) <|
      cond ((decide ((rd l_6363 i6372) < (0 : Int))) || (decide ((rd l_6363 i6372) > (15 : Int))))
        (
        .ok (1 : Int))
        (
        cond (decide ((rd l_6363 i6372) > (0 : Int)))
          (
          chk (decide (0 ≤ (wr .u64 (w64 ((15 : Int) - (rd l_6363 i6372)))))) <|
          lt ((w64 (sum6369 + (ishl .i64 (1 : Int) (wr .u64 (w64 ((15 : Int) - (rd l_6363 i6372)))))))) fun (sum6379 : Int) =>
          lt ((w64 (n_6370 + (1 : Int)))) fun (n_6380 : Int) =>
          lt ((rd l_6363 i6372)) fun (last6381 : Int) =>
          lt ((w64 (i6372 + (1 : Int)))) fun (i6382 : Int) =>
          mortiseref06_Check.l1 K l_6363 k sum6379 n_6380 last6381 i6382)
          (
          lt ((w64 (i6372 + (1 : Int)))) fun (i6383 : Int) =>
          mortiseref06_Check.l1 K l_6363 k sum6369 n_6370 last6371 i6383)))
      (
      mortiseref06_Check.j2 K sum6369 n_6370 last6371)

def mortiseref06_Check.m (K : Nat) (l_6363 : List Int) : Res Int :=
  cond (decide ((l_6363.length : Int) > (320 : Int)))
    (
    .ok (1 : Int))
    (
    mortiseref06_Check.l1 K l_6363 K (0 : Int) (0 : Int) (0 : Int) (0 : Int))

def mortiseref06_Codes.l2 (K : Nat) (g1 : (List Int) → Int → Int → Res ((List Int) × Int)) (l_6356 : List Int) (length6460 : Int) : Nat → (List Int) → Int → Int → Res ((List Int) × Int)
  | 0, _, _, _ => .fail
  | k + 1, out6484, code6487, i6488 =>
    cond (decide (i6488 < (l_6356.length : Int)))
      (
      chk (inb i6488 l_6356.length) <|
      cond ((rd l_6356 i6488) == length6460)
        (
        chk (inb i6488 out6484.length) <|
        lt (out6484.set (Int.toNat i6488) code6487) fun (zs6497 : (List Int)) =>
        lt ((w64 (code6487 + (1 : Int)))) fun (code6499 : Int) =>
        lt ((w64 (i6488 + (1 : Int)))) fun (i6500 : Int) =>
        mortiseref06_Codes.l2 K g1 l_6356 length6460 k zs6497 code6499 i6500)
        (
        lt ((w64 (i6488 + (1 : Int)))) fun (i6501 : Int) =>
        mortiseref06_Codes.l2 K g1 l_6356 length6460 k out6484 code6487 i6501))
      (
      lt ((w64 (length6460 + (1 : Int)))) fun (length6491 : Int) =>
      g1 out6484 code6487 length6491)

def mortiseref06_Codes.l1 (K : Nat) (l_6356 : List Int) : Nat → (List Int) → Int → Int → Res ((List Int) × Int)
  | 0, _, _, _ => .fail
  | k + 1, out6456, code6459, length6460 =>
    cond (decide (length6460 ≤ (15 : Int)))
      (
      lt ((w64 (code6459 * (2 : Int)))) fun (code6463 : Int) =>
      mortiseref06_Codes.l2 K (mortiseref06_Codes.l1 K l_6356 k) l_6356 length6460 K out6456 code6463 (0 : Int))
      (
      .ok (out6456, (0 : Int)))

def mortiseref06_Codes.m (K : Nat) (l_6356 : List Int) : Res ((List Int) × Int) :=
  (mortiseref06_Check.m K l_6356).bind fun x6397 =>
  cond (x6397 != (0 : Int))
    (
    .ok (([] : List Int), x6397))
    (
    chk (decide (0 ≤ (l_6356.length : Int)) && room (Int.toNat (l_6356.length : Int)) 8) <|
    lt (List.replicate (Int.toNat (l_6356.length : Int)) (0 : Int)) fun (zs6406 : (List Int)) =>
    mortiseref06_Codes.l1 K l_6356 K zs6406 (0 : Int) (1 : Int))

def mortiseref05_Writer_Put.l3 (K : Nat) (n_6536 : Int) : Nat → (List Int) → Int → Int → Res (Int × (List Int))
  | 0, _, _, _ => .fail
  | k + 1, b_6575, v6580, i6581 =>
    cond (decide (i6581 < n_6536))
      (
      chk (room (b_6575.length + ([(wr .u8 (irem v6580 (2 : Int)))] : List Int).length) 1) <|
      lt (b_6575 ++ ([(wr .u8 (irem v6580 (2 : Int)))] : List Int)) fun (zs6593 : (List Int)) =>
      lt ((iquo .u32 v6580 (2 : Int))) fun (v6596 : Int) =>
      lt ((w64 (i6581 + (1 : Int)))) fun (i6597 : Int) =>
      mortiseref05_Writer_Put.l3 K n_6536 k zs6593 v6596 i6597)
      (
      .ok ((0 : Int), b_6575))

def mortiseref05_Writer_Put.j2 (K : Nat) (w_6527 : T_mortiseref05_Writer) (v6535 : Int) (n_6536 : Int) (v6543 : Bool) : Res (Int × (List Int)) :=
  cond v6543
    (
    .ok ((1 : Int), w_6527.B_))
    (
    mortiseref05_Writer_Put.l3 K n_6536 K w_6527.B_ v6535 (0 : Int))

def mortiseref05_Writer_Put.j1 (K : Nat) (w_6527 : T_mortiseref05_Writer) (v6535 : Int) (n_6536 : Int) (v6541 : Bool) : Res (Int × (List Int)) :=
  mortiseref05_Writer_Put.j2 K w_6527 v6535 n_6536 v6541

def mortiseref05_Writer_Put.m (K : Nat) (w_6527 : T_mortiseref05_Writer) (v6535 : Int) (n_6536 : Int) : Res (Int × (List Int)) :=
  cond ((decide (n_6536 < (0 : Int))) || (decide (n_6536 > (32 : Int))))
    (
    mortiseref05_Writer_Put.j2 K w_6527 v6535 n_6536 true)
    (
    cond (decide (n_6536 < (32 : Int)))
      (
      chk (decide (0 ≤ (wr .u64 n_6536))) <|
      mortiseref05_Writer_Put.j1 K w_6527 v6535 n_6536 (decide (v6535 ≥ (ishl .u32 (1 : Int) (wr .u64 n_6536)))))
      (
      mortiseref05_Writer_Put.j1 K w_6527 v6535 n_6536 false))

def mortiseref08_May.m (K : Nat) (t6624 : T_api_Token) : Res Bool :=
  cond (t6624.Dist_ == (0 : Int))
    (
    lt ((t6624.Len_ == (0 : Int))) fun (v6629 : Bool) =>
    .ok v6629)
    (
    lt ((((((decide (t6624.Dist_ ≥ (1 : Int))) && (decide (t6624.Dist_ ≤ (32768 : Int)))) && (decide (t6624.Len_ ≥ (3 : Int)))) && (decide (t6624.Len_ ≤ (258 : Int)))) && (t6624.Lit_ == (0 : Int)))) fun (v6630 : Bool) =>
    .ok v6630)

def mortiseref09_put.l1 (K : Nat) (codes6648 : List Int) (symbol6653 : Int) : Nat → (List Int) → Int → Res (List Int)
  | 0, _, _ => .fail
  | k + 1, b_6680, b_6685 =>
    cond (decide (b_6685 ≥ (0 : Int)))
      (
      chk (inb symbol6653 codes6648.length) <|
      chk (decide (0 ≤ (wr .u64 b_6685))) <|
      (mortiseref05_Writer_Put.m K (T_mortiseref05_Writer.mk b_6680) (irem (ishr .u32 (wr .u32 (rd codes6648 symbol6653)) (wr .u64 b_6685)) (2 : Int)) (1 : Int)).bind fun (x6690, b_6693) =>
      lt ((w64 (b_6685 - (1 : Int)))) fun (b_6698 : Int) =>
      mortiseref09_put.l1 K codes6648 symbol6653 k b_6693 b_6698)
      (
      .ok b_6680)

def mortiseref09_put.m (K : Nat) (w_6635 : T_mortiseref05_Writer) (l_6643 : List Int) (codes6648 : List Int) (symbol6653 : Int) : Res (List Int) :=
  chk (inb symbol6653 l_6643.length) <|
  lt ((w64 ((rd l_6643 symbol6653) - (1 : Int)))) fun (b_6655 : Int) =>
  mortiseref09_put.l1 K codes6648 symbol6653 K w_6635.B_ b_6655

def mortiseref07_Length.m (K : Nat) (symbol6721 : Int) : Res (Int × Int) :=
  cond (symbol6721 == (285 : Int))
    (
    .ok ((258 : Int), (0 : Int)))
    (
    lt ((w64 (symbol6721 - (257 : Int)))) fun (k_6723 : Int) =>
    cond (decide (k_6723 < (8 : Int)))
      (
      lt ((w64 ((3 : Int) + k_6723))) fun (v6725 : Int) =>
      .ok (v6725, (0 : Int)))
      (
      lt ((w64 ((iquo .i64 k_6723 (4 : Int)) - (1 : Int)))) fun (more6726 : Int) =>
      chk (decide (0 ≤ (wr .u64 more6726))) <|
      lt ((w64 ((3 : Int) + (ishl .i64 (w64 ((4 : Int) + (irem k_6723 (4 : Int)))) (wr .u64 more6726))))) fun (v6728 : Int) =>
      .ok (v6728, more6726)))

def mortiseref08_LengthSymbol.l1 (K : Nat) (n_6715 : Int) : Nat → Int → Int → Res Int
  | 0, _, _ => .fail
  | k + 1, out6717, s6718 =>
    cond (decide (s6718 < (285 : Int)))
      (
      (mortiseref07_Length.m K s6718).bind fun (x6731, x6732) =>
      cond (decide (x6731 ≤ n_6715))
        (
        lt ((w64 (s6718 + (1 : Int)))) fun (s6734 : Int) =>
        mortiseref08_LengthSymbol.l1 K n_6715 k s6718 s6734)
        (
        lt ((w64 (s6718 + (1 : Int)))) fun (s6735 : Int) =>
        mortiseref08_LengthSymbol.l1 K n_6715 k out6717 s6735))
      (
      .ok out6717)

def mortiseref08_LengthSymbol.m (K : Nat) (n_6715 : Int) : Res Int :=
  cond (n_6715 == (258 : Int))
    (
    .ok (285 : Int))
    (
    mortiseref08_LengthSymbol.l1 K n_6715 K (257 : Int) (257 : Int))

def mortiseref07_Distance.m (K : Nat) (symbol6744 : Int) : Res (Int × Int) :=
  cond (decide (symbol6744 < (4 : Int)))
    (
    lt ((w64 ((1 : Int) + symbol6744))) fun (v6746 : Int) =>
    .ok (v6746, (0 : Int)))
    (
    lt ((w64 ((iquo .i64 symbol6744 (2 : Int)) - (1 : Int)))) fun (more6747 : Int) =>
    chk (decide (0 ≤ (wr .u64 more6747))) <|
    lt ((w64 ((1 : Int) + (ishl .i64 (w64 ((2 : Int) + (irem symbol6744 (2 : Int)))) (wr .u64 more6747))))) fun (v6749 : Int) =>
    .ok (v6749, more6747))

def mortiseref08_DistSymbol.l1 (K : Nat) (n_6739 : Int) : Nat → Int → Int → Res Int
  | 0, _, _ => .fail
  | k + 1, out6740, s6741 =>
    cond (decide (s6741 < (30 : Int)))
      (
      (mortiseref07_Distance.m K s6741).bind fun (x6752, x6753) =>
      cond (decide (x6752 ≤ n_6739))
        (
        lt ((w64 (s6741 + (1 : Int)))) fun (s6755 : Int) =>
        mortiseref08_DistSymbol.l1 K n_6739 k s6741 s6755)
        (
        lt ((w64 (s6741 + (1 : Int)))) fun (s6756 : Int) =>
        mortiseref08_DistSymbol.l1 K n_6739 k out6740 s6756))
      (
      .ok out6740)

def mortiseref08_DistSymbol.m (K : Nat) (n_6739 : Int) : Res Int :=
  mortiseref08_DistSymbol.l1 K n_6739 K (0 : Int) (0 : Int)

def mortiseref05_Writer_String.l1 (K : Nat) (w_6883 : T_mortiseref05_Writer) : Nat → (List Int) → Int → Res (List UInt8)
  | 0, _, _ => .fail
  | k + 1, out6916, i6919 =>
    cond (decide (i6919 < (w_6883.B_.length : Int)))
      (
      chk (inb (iquo .i64 i6919 (8 : Int)) out6916.length) <|
      chk (inb i6919 w_6883.B_.length) <|
      chk (decide (0 ≤ (wr .u64 (irem i6919 (8 : Int))))) <|
      lt (out6916.set (Int.toNat (iquo .i64 i6919 (8 : Int))) (wr .u8 ((rd out6916 (iquo .i64 i6919 (8 : Int))) + (ishl .u8 (rd w_6883.B_ i6919) (wr .u64 (irem i6919 (8 : Int))))))) fun (zs6931 : (List Int)) =>
      lt ((w64 (i6919 + (1 : Int)))) fun (i6933 : Int) =>
      mortiseref05_Writer_String.l1 K w_6883 k zs6931 i6933)
      (
      lt ((out6916.map tob)) fun (v6922 : List UInt8) =>
      .ok v6922)

def mortiseref05_Writer_String.m (K : Nat) (w_6883 : T_mortiseref05_Writer) : Res (List UInt8) :=
  chk (decide (0 ≤ (iquo .i64 (w64 ((w_6883.B_.length : Int) + (7 : Int))) (8 : Int))) && room (Int.toNat (iquo .i64 (w64 ((w_6883.B_.length : Int) + (7 : Int))) (8 : Int))) 1) <|
  lt (List.replicate (Int.toNat (iquo .i64 (w64 ((w_6883.B_.length : Int) + (7 : Int))) (8 : Int))) (0 : Int)) fun (zs6896 : (List Int)) =>
  mortiseref05_Writer_String.l1 K w_6883 K zs6896 (0 : Int)

def mortiseref09_Fixed.j2 (K : Nat) (x6348 : (List Int)) (x6512 : (List Int)) (b_6870 : (List Int)) : Res ((List UInt8) × Int) :=
  (mortiseref09_put.m K (T_mortiseref05_Writer.mk b_6870) x6348 x6512 (256 : Int)).bind fun b_6878 =>
  (mortiseref05_Writer_String.m K (T_mortiseref05_Writer.mk b_6878)).bind fun x6936 =>
  .ok (x6936, (0 : Int))

def mortiseref09_Fixed.l1 (K : Nat) (tokens6227 : List T_api_Token) (x6348 : (List Int)) (x6352 : (List Int)) (x6512 : (List Int)) (x6518 : (List Int)) : Nat → (List Int) → Int → Res ((List UInt8) × Int)
  | 0, _, _ => .fail
  | k + 1, b_6805, i6810 =>
    cond (decide (i6810 < (tokens6227.length : Int)))
      (
      chk (inb i6810 tokens6227.length) <|
      (mortiseref08_May.m K (T_api_Token.mk ((rd tokens6227 i6810).Lit_) ((rd tokens6227 i6810).Len_) ((rd tokens6227 i6810).Dist_))).bind fun x6819 =>
      cond (!x6819)
        (
        .ok (([] : List UInt8), (1 : Int)))
        (
        cond ((rd tokens6227 i6810).Dist_ == (0 : Int))
          (
          (mortiseref09_put.m K (T_mortiseref05_Writer.mk b_6805) x6348 x6512 (wr .i64 (rd tokens6227 i6810).Lit_)).bind fun b_6824 =>
          lt ((w64 (i6810 + (1 : Int)))) fun (i6829 : Int) =>
          mortiseref09_Fixed.l1 K tokens6227 x6348 x6352 x6512 x6518 k b_6824 i6829)
          (
          (mortiseref08_LengthSymbol.m K ((rd tokens6227 i6810).Len_)).bind fun x6830 =>
          (mortiseref08_DistSymbol.m K ((rd tokens6227 i6810).Dist_)).bind fun x6831 =>
          (mortiseref07_Length.m K x6830).bind fun (x6832, x6833) =>
          (mortiseref07_Distance.m K x6831).bind fun (x6834, x6835) =>
          (mortiseref09_put.m K (T_mortiseref05_Writer.mk b_6805) x6348 x6512 x6830).bind fun b_6838 =>
          (mortiseref05_Writer_Put.m K (T_mortiseref05_Writer.mk b_6838) (wr .u32 (w64 ((rd tokens6227 i6810).Len_ - x6832))) x6833).bind fun (x6843, b_6846) =>
          (mortiseref09_put.m K (T_mortiseref05_Writer.mk b_6846) x6352 x6518 x6831).bind fun b_6853 =>
          (mortiseref05_Writer_Put.m K (T_mortiseref05_Writer.mk b_6853) (wr .u32 (w64 ((rd tokens6227 i6810).Dist_ - x6834))) x6835).bind fun (x6858, b_6861) =>
          lt ((w64 (i6810 + (1 : Int)))) fun (i6866 : Int) =>
          mortiseref09_Fixed.l1 K tokens6227 x6348 x6352 x6512 x6518 k b_6861 i6866)))
      (
      mortiseref09_Fixed.j2 K x6348 x6512 b_6805)

def mortiseref09_Fixed.m (K : Nat) (tokens6227 : List T_api_Token) : Res ((List UInt8) × Int) :=
  (mortiseref07_Fixed.m K).bind fun (x6348, x6352) =>
  (mortiseref06_Codes.m K x6348).bind fun (x6512, x6514) =>
  (mortiseref06_Codes.m K x6352).bind fun (x6518, x6520) =>
  (mortiseref05_Writer_Put.m K (T_mortiseref05_Writer.mk ([] : List Int)) (3 : Int) (3 : Int)).bind fun (x6607, b_6610) =>
  mortiseref09_Fixed.l1 K tokens6227 x6348 x6352 x6512 x6518 K b_6610 (0 : Int)

def mortiselaw09_DeflateFixed.j1 (K : Nat)  (v6943 : Bool) : Res Bool :=
  .ok v6943

def mortiselaw09_DeflateFixed.m (K : Nat) (l_6218 : List T_api_Token) : Res Bool :=
  cond (decide ((l_6218.length : Int) > (1000 : Int)))
    (
    (mortiselaw09_live.m K).bind fun x6224 =>
    .ok x6224)
    (
    (deflate_Fixed.m K l_6218).bind fun (x6225, x6226) =>
    (mortiseref09_Fixed.m K l_6218).bind fun (x6939, x6940) =>
    cond ((x6225 == x6939) && (x6226 == x6940))
      (
      (mortiselaw09_live.m K).bind fun x6942 =>
      mortiselaw09_DeflateFixed.j1 K x6942)
      (
      mortiselaw09_DeflateFixed.j1 K false))

def mortiseref08_Expand.l2 (K : Nat) (g1 : (List Int) → Int → Res ((List UInt8) × Int)) (l_6972 : List T_api_Token) (i7063 : Int) (n_7076 : Int) : Nat → (List Int) → Int → Res ((List UInt8) × Int)
  | 0, _, _ => .fail
  | k + 1, out7114, k_7117 =>
    cond (decide (k_7117 < n_7076))
      (
      chk (inb (w64 ((out7114.length : Int) - (rd l_6972 i7063).Dist_)) out7114.length) <|
      chk (room (out7114.length + ([(rd out7114 (w64 ((out7114.length : Int) - (rd l_6972 i7063).Dist_)))] : List Int).length) 1) <|
      lt (out7114 ++ ([(rd out7114 (w64 ((out7114.length : Int) - (rd l_6972 i7063).Dist_)))] : List Int)) fun (zs7131 : (List Int)) =>
      lt ((w64 (k_7117 + (1 : Int)))) fun (k_7132 : Int) =>
      mortiseref08_Expand.l2 K g1 l_6972 i7063 n_7076 k zs7131 k_7132)
      (
      lt ((w64 (i7063 + (1 : Int)))) fun (i7120 : Int) =>
      g1 out7114 i7120)

def mortiseref08_Expand.l1 (K : Nat) (l_6972 : List T_api_Token) (limit6977 : Int) : Nat → (List Int) → Int → Res ((List UInt8) × Int)
  | 0, _, _ => .fail
  | k + 1, out7060, i7063 =>
    cond (decide (i7063 < (l_6972.length : Int)))
      (
      chk (inb i7063 l_6972.length) <|
      (mortiseref08_May.m K (T_api_Token.mk ((rd l_6972 i7063).Lit_) ((rd l_6972 i7063).Len_) ((rd l_6972 i7063).Dist_))).bind fun x7073 =>
      cond (!x7073)
        (
        .ok (([] : List UInt8), (1 : Int)))
        (
        cond (decide ((rd l_6972 i7063).Dist_ > (out7060.length : Int)))
          (
          .ok (([] : List UInt8), (3 : Int)))
          (
          lt ((if (rd l_6972 i7063).Len_ > (1 : Int) then (rd l_6972 i7063).Len_ else (1 : Int))) fun (n_7076 : Int) =>
          cond (decide (n_7076 > (w64 (limit6977 - (out7060.length : Int)))))
            (
            .ok (([] : List UInt8), (11 : Int)))
            (
            cond ((rd l_6972 i7063).Dist_ == (0 : Int))
              (
              chk (room (out7060.length + ([(rd l_6972 i7063).Lit_] : List Int).length) 1) <|
              lt (out7060 ++ ([(rd l_6972 i7063).Lit_] : List Int)) fun (zs7088 : (List Int)) =>
              lt ((w64 (i7063 + (1 : Int)))) fun (i7089 : Int) =>
              mortiseref08_Expand.l1 K l_6972 limit6977 k zs7088 i7089)
              (
              mortiseref08_Expand.l2 K (mortiseref08_Expand.l1 K l_6972 limit6977 k) l_6972 i7063 n_7076 K out7060 (0 : Int))))))
      (
      lt ((out7060.map tob)) fun (v7066 : List UInt8) =>
      .ok (v7066, (0 : Int)))

def mortiseref08_Expand.m (K : Nat) (l_6972 : List T_api_Token) (limit6977 : Int) : Res ((List UInt8) × Int) :=
  cond ((decide (limit6977 < (0 : Int))) || (decide (limit6977 > (1073741824 : Int))))
    (
    .ok (([] : List UInt8), (1 : Int)))
    (
    mortiseref08_Expand.l1 K l_6972 limit6977 K ([] : List Int) (0 : Int))

def mortiseref05_Reader_Bits.j2 (K : Nat) (r7179 : T_mortiseref05_Reader) (n_7183 : Int) (v7198 : Int) : Res (Int × Int × Int) :=
  .ok (v7198, (0 : Int), (w64 (r7179.At_ + n_7183)))

def mortiseref05_Reader_Bits.l1 (K : Nat) (r7179 : T_mortiseref05_Reader) (n_7183 : Int) : Nat → Int → Int → Res (Int × Int × Int)
  | 0, _, _ => .fail
  | k + 1, v7186, i7187 =>
    cond (decide (i7187 < n_7183))
      (
      lt ((w64 (r7179.At_ + i7187))) fun (k_7190 : Int) =>
      chk (inb (iquo .i64 k_7190 (8 : Int)) r7179.S_.length) <|
      chk (decide (0 ≤ (wr .u64 (irem k_7190 (8 : Int))))) <|
      lt ((irem (ishr .u32 (wr .u32 ((rd r7179.S_ (iquo .i64 k_7190 (8 : Int))).toNat : Int)) (wr .u64 (irem k_7190 (8 : Int)))) (2 : Int))) fun (b_7193 : Int) =>
      chk (decide (0 ≤ (wr .u64 i7187))) <|
      lt ((wr .u32 (v7186 + (ishl .u32 b_7193 (wr .u64 i7187))))) fun (v7195 : Int) =>
      lt ((w64 (i7187 + (1 : Int)))) fun (i7196 : Int) =>
      mortiseref05_Reader_Bits.l1 K r7179 n_7183 k v7195 i7196)
      (
      mortiseref05_Reader_Bits.j2 K r7179 n_7183 v7186)

def mortiseref05_Reader_Bits.m (K : Nat) (r7179 : T_mortiseref05_Reader) (n_7183 : Int) : Res (Int × Int × Int) :=
  cond ((decide (n_7183 < (0 : Int))) || (decide (n_7183 > (32 : Int))))
    (
    .ok ((0 : Int), (1 : Int), r7179.At_))
    (
    cond (decide (n_7183 > (w64 ((w64 ((8 : Int) * (r7179.S_.length : Int))) - r7179.At_))))
      (
      .ok ((0 : Int), (2 : Int), r7179.At_))
      (
      mortiseref05_Reader_Bits.l1 K r7179 n_7183 K (0 : Int) (0 : Int)))

def mortiseref07_state_bits.m (K : Nat) (s7166 : T_mortiseref07_state) (n_7177 : Int) (from_7178 : Int) : Res (Int × Int × Int) :=
  (mortiseref05_Reader_Bits.m K s7166.r_ n_7177).bind fun (x7207, x7208, at_7209) =>
  lt ((w64 (from_7178 + (wr .i64 x7207)))) fun (v7212 : Int) =>
  .ok (v7212, x7208, at_7209)

def mortiseref05_Reader_Align.l1 (K : Nat)  : Nat → Int → Res Int
  | 0, _ => .fail
  | k + 1, at_7260 =>
    cond ((irem at_7260 (8 : Int)) != (0 : Int))
      (
      mortiseref05_Reader_Align.l1 K k (w64 (at_7260 + (1 : Int))))
      (
      .ok at_7260)

def mortiseref05_Reader_Align.m (K : Nat) (r7249 : T_mortiseref05_Reader) : Res Int :=
  mortiseref05_Reader_Align.l1 K K r7249.At_

def mortiseref05_Reader_Bytes.m (K : Nat) (r7243 : T_mortiseref05_Reader) (n_7247 : Int) : Res ((List UInt8) × Int × Int) :=
  cond (decide (n_7247 < (0 : Int)))
    (
    .ok (([] : List UInt8), (1 : Int), r7243.At_))
    (
    (mortiseref05_Reader_Align.m K r7243).bind fun at_7271 =>
    lt ((iquo .i64 at_7271 (8 : Int))) fun (at_7274 : Int) =>
    cond (decide (n_7247 > (w64 ((r7243.S_.length : Int) - at_7274))))
      (
      .ok (([] : List UInt8), (2 : Int), at_7271))
      (
      chk (subok at_7274 (w64 (at_7274 + n_7247)) r7243.S_.length) <|
      lt ((sub r7243.S_ at_7274 (w64 (at_7274 + n_7247)))) fun (v7279 : List UInt8) =>
      .ok (v7279, (0 : Int), (w64 (at_7271 + (w64 ((8 : Int) * n_7247)))))))

def mortiseref07_state_stored.m (K : Nat) (s7232 : T_mortiseref07_state) : Res (Int × Int × (List Int)) :=
  (mortiseref05_Reader_Bytes.m K s7232.r_ (4 : Int)).bind fun (x7285, x7286, at_7287) =>
  cond (x7286 != (0 : Int))
    (
    .ok (x7286, at_7287, s7232.out_))
    (
    chk (inb (0 : Int) x7285.length) <|
    chk (inb (1 : Int) x7285.length) <|
    lt ((w64 ((wr .i64 ((rd x7285 (0 : Int)).toNat : Int)) + (w64 ((256 : Int) * (wr .i64 ((rd x7285 (1 : Int)).toNat : Int))))))) fun (n_7295 : Int) =>
    chk (inb (2 : Int) x7285.length) <|
    chk (inb (3 : Int) x7285.length) <|
    cond ((w64 ((wr .i64 ((rd x7285 (2 : Int)).toNat : Int)) + (w64 ((256 : Int) * (wr .i64 ((rd x7285 (3 : Int)).toNat : Int)))))) != (w64 ((65535 : Int) - n_7295)))
      (
      .ok ((3 : Int), at_7287, s7232.out_))
      (
      (mortiseref05_Reader_Bytes.m K (T_mortiseref05_Reader.mk s7232.r_.S_ at_7287) n_7295).bind fun (x7302, x7303, at_7304) =>
      cond (x7303 != (0 : Int))
        (
        .ok (x7303, at_7304, s7232.out_))
        (
        cond (decide (n_7295 > (w64 (s7232.limit_ - (s7232.out_.length : Int)))))
          (
          .ok ((11 : Int), at_7304, s7232.out_))
          (
          chk (room (s7232.out_.length + x7302.length) 1) <|
          lt (s7232.out_ ++ x7302.map ofb) fun (zs7314 : (List Int)) =>
          .ok ((0 : Int), at_7304, zs7314)))))

def mortiseref07_coded.m (K : Nat) (l_7352 : List Int) : Res ((List Int) × Bool) :=
  (mortiseref06_Codes.m K l_7352).bind fun (x7366, x7368) =>
  lt ((x7368 == (0 : Int))) fun (v7372 : Bool) =>
  .ok (x7366, v7372)

def mortiseref06_Next.j3 (K : Nat) (g1 : Int → Int → Int → Res (Int × Int × Int)) (r7455 : T_mortiseref05_Reader) (at_7504 : Int) (v7507 : Int) (length7508 : Int) (begins7532 : Bool) : Res (Int × Int × Int) :=
  cond (!begins7532)
    (
    .ok ((0 : Int), (3 : Int), r7455.At_))
    (
    (mortiseref05_Reader_Bits.m K (T_mortiseref05_Reader.mk r7455.S_ at_7504) (1 : Int)).bind fun (x7537, x7538, at_7539) =>
    cond (x7538 != (0 : Int))
      (
      .ok ((0 : Int), x7538, r7455.At_))
      (
      lt ((w64 ((w64 ((2 : Int) * v7507)) + (wr .i64 x7537)))) fun (v7545 : Int) =>
      lt ((w64 (length7508 + (1 : Int)))) fun (length7546 : Int) =>
      g1 at_7539 v7545 length7546))

def mortiseref06_Next.l2 (K : Nat) (g1 : Int → Int → Int → Res (Int × Int × Int)) (l_7445 : List Int) (codes7450 : List Int) (r7455 : T_mortiseref05_Reader) (at_7504 : Int) (v7507 : Int) (length7508 : Int) : Nat → Bool → Int → Res (Int × Int × Int)
  | 0, _, _ => .fail
  | k + 1, begins7511, i7512 =>
    cond (decide (i7512 < (l_7445.length : Int)))
      (
      chk (inb i7512 l_7445.length) <|
      chk (imp true (((rd l_7445 i7512) == length7508) && (decide (length7508 > (0 : Int)))) (inb i7512 codes7450.length)) <|
      cond ((((rd l_7445 i7512) == length7508) && (decide (length7508 > (0 : Int)))) && ((rd codes7450 i7512) == v7507))
        (
        .ok (i7512, (0 : Int), at_7504))
        (
        cond begins7511
          (
          lt ((w64 (i7512 + (1 : Int)))) fun (i7521 : Int) =>
          mortiseref06_Next.l2 K g1 l_7445 codes7450 r7455 at_7504 v7507 length7508 k true i7521)
          (
          cond (decide ((rd l_7445 i7512) > length7508))
            (
            chk (inb i7512 codes7450.length) <|
            chk (decide (0 ≤ (wr .u64 (w64 ((rd l_7445 i7512) - length7508))))) <|
            lt (((ishr .i64 (rd codes7450 i7512) (wr .u64 (w64 ((rd l_7445 i7512) - length7508)))) == v7507)) fun (begins7527 : Bool) =>
            lt ((w64 (i7512 + (1 : Int)))) fun (i7529 : Int) =>
            mortiseref06_Next.l2 K g1 l_7445 codes7450 r7455 at_7504 v7507 length7508 k begins7527 i7529)
            (
            lt ((w64 (i7512 + (1 : Int)))) fun (i7530 : Int) =>
            mortiseref06_Next.l2 K g1 l_7445 codes7450 r7455 at_7504 v7507 length7508 k false i7530))))
      (
      mortiseref06_Next.j3 K (g1) r7455 at_7504 v7507 length7508 begins7511)

def mortiseref06_Next.j4 (K : Nat) (r7455 : T_mortiseref05_Reader) (at_7548 : Int) : Res (Int × Int × Int) :=
  .ok ((0 : Int), (3 : Int), r7455.At_)

def mortiseref06_Next.l1 (K : Nat) (l_7445 : List Int) (codes7450 : List Int) (r7455 : T_mortiseref05_Reader) : Nat → Int → Int → Int → Res (Int × Int × Int)
  | 0, _, _, _ => .fail
  | k + 1, at_7504, v7507, length7508 =>
    cond (decide (length7508 ≤ (15 : Int)))
      (
      mortiseref06_Next.l2 K (mortiseref06_Next.l1 K l_7445 codes7450 r7455 k) l_7445 codes7450 r7455 at_7504 v7507 length7508 K false (0 : Int))
      (
      mortiseref06_Next.j4 K r7455 at_7504)

def mortiseref06_Next.m (K : Nat) (l_7445 : List Int) (codes7450 : List Int) (r7455 : T_mortiseref05_Reader) : Res (Int × Int × Int) :=
  mortiseref06_Next.l1 K l_7445 codes7450 r7455 K r7455.At_ (0 : Int) (0 : Int)

def mortiseref07_state_match.l1 (K : Nat) (x7607 : Int) (x7622 : Int) (at_7624 : Int) : Nat → (List Int) → Int → Res (Int × Int × (List Int))
  | 0, _, _ => .fail
  | k + 1, out7658, i7663 =>
    cond (decide (i7663 < x7607))
      (
      chk (inb (w64 ((out7658.length : Int) - x7622)) out7658.length) <|
      chk (room (out7658.length + ([(rd out7658 (w64 ((out7658.length : Int) - x7622)))] : List Int).length) 1) <|
      lt (out7658 ++ ([(rd out7658 (w64 ((out7658.length : Int) - x7622)))] : List Int)) fun (zs7677 : (List Int)) =>
      lt ((w64 (i7663 + (1 : Int)))) fun (i7680 : Int) =>
      mortiseref07_state_match.l1 K x7607 x7622 at_7624 k zs7677 i7680)
      (
      .ok ((0 : Int), at_7624, out7658))

def mortiseref07_state_match.m (K : Nat) (s7580 : T_mortiseref07_state) (symbol7591 : Int) (distances7592 : T_mortiseref07_code) : Res (Int × Int × (List Int)) :=
  cond (decide (symbol7591 > (285 : Int)))
    (
    .ok ((3 : Int), s7580.r_.At_, s7580.out_))
    (
    (mortiseref07_Length.m K symbol7591).bind fun (x7605, x7606) =>
    (mortiseref07_state_bits.m K s7580 x7606 x7605).bind fun (x7607, x7608, at_7609) =>
    cond (x7608 != (0 : Int))
      (
      .ok (x7608, at_7609, s7580.out_))
      (
      (mortiseref06_Next.m K distances7592.l_ distances7592.codes_ (T_mortiseref05_Reader.mk s7580.r_.S_ at_7609)).bind fun (x7613, x7614, at_7615) =>
      cond (x7614 != (0 : Int))
        (
        .ok (x7614, at_7615, s7580.out_))
        (
        cond (decide (x7613 > (29 : Int)))
          (
          .ok ((3 : Int), at_7615, s7580.out_))
          (
          (mortiseref07_Distance.m K x7613).bind fun (x7620, x7621) =>
          (mortiseref07_state_bits.m K (T_mortiseref07_state.mk (T_mortiseref05_Reader.mk s7580.r_.S_ at_7615) s7580.out_ s7580.limit_) x7621 x7620).bind fun (x7622, x7623, at_7624) =>
          cond (x7623 != (0 : Int))
            (
            .ok (x7623, at_7624, s7580.out_))
            (
            cond (decide (x7622 > (s7580.out_.length : Int)))
              (
              .ok ((3 : Int), at_7624, s7580.out_))
              (
              cond (decide (x7607 > (w64 (s7580.limit_ - (s7580.out_.length : Int)))))
                (
                .ok ((11 : Int), at_7624, s7580.out_))
                (
                mortiseref07_state_match.l1 K x7607 x7622 at_7624 K s7580.out_ (0 : Int))))))))

def mortiseref07_state_symbols.l1 (K : Nat) (s7409 : T_mortiseref07_state) (literals7420 : T_mortiseref07_code) (distances7429 : T_mortiseref07_code) : Nat → Int → (List Int) → Res (Int × Int × (List Int))
  | 0, _, _ => .fail
  | k + 1, at_7715, out7720 =>
    (mortiseref06_Next.m K literals7420.l_ literals7420.codes_ (T_mortiseref05_Reader.mk s7409.r_.S_ at_7715)).bind fun (x7726, x7727, at_7728) =>
    cond (x7727 != (0 : Int))
      (
      .ok (x7727, at_7728, out7720))
      (
      cond (x7726 == (256 : Int))
        (
        .ok ((0 : Int), at_7728, out7720))
        (
        cond (decide (x7726 < (256 : Int)))
          (
          cond (decide ((out7720.length : Int) ≥ s7409.limit_))
            (
            .ok ((11 : Int), at_7728, out7720))
            (
            chk (room (out7720.length + ([(wr .u8 x7726)] : List Int).length) 1) <|
            lt (out7720 ++ ([(wr .u8 x7726)] : List Int)) fun (zs7744 : (List Int)) =>
            mortiseref07_state_symbols.l1 K s7409 literals7420 distances7429 k at_7728 zs7744))
          (
          (mortiseref07_state_match.m K (T_mortiseref07_state.mk (T_mortiseref05_Reader.mk s7409.r_.S_ at_7728) out7720 s7409.limit_) x7726 distances7429).bind fun (x7747, at_7748, out7752) =>
          cond (x7747 != (0 : Int))
            (
            .ok (x7747, at_7748, out7752))
            (
            mortiseref07_state_symbols.l1 K s7409 literals7420 distances7429 k at_7748 out7752))))

def mortiseref07_state_symbols.m (K : Nat) (s7409 : T_mortiseref07_state) (literals7420 : T_mortiseref07_code) (distances7429 : T_mortiseref07_code) : Res (Int × Int × (List Int)) :=
  mortiseref07_state_symbols.l1 K s7409 literals7420 distances7429 K s7409.r_.At_ s7409.out_

def mortiseref07_Order.m (K : Nat) : Res Unit :=
  .ok ()

def mortiseref07_state_head.j2 (K : Nat) (x7814 : Int) (x7826 : Int) (at_7940 : Int) (l_7943 : (List Int)) (any7946 : Bool) : Res (Int × Int × (List Int) × (List Int) × Int × Int) :=
  (mortiseref07_coded.m K l_7943).bind fun (codes7950, x7952) =>
  cond ((!x7952) || (!any7946))
    (
    .ok ((0 : Int), (0 : Int), ([] : List Int), ([] : List Int), (3 : Int), at_7940))
    (
    .ok (x7814, x7826, l_7943, codes7950, (0 : Int), at_7940))

def mortiseref07_state_head.l1 (K : Nat) (s7796 : T_mortiseref07_state) (x7814 : Int) (x7826 : Int) (x7838 : Int) : Nat → Int → (List Int) → Bool → Int → Res (Int × Int × (List Int) × (List Int) × Int × Int)
  | 0, _, _, _, _ => .fail
  | k + 1, at_7909, l_7912, any7915, i7916 =>
    cond (decide (i7916 < x7838))
      (
      (mortiseref07_state_bits.m K (T_mortiseref07_state.mk (T_mortiseref05_Reader.mk s7796.r_.S_ at_7909) s7796.out_ s7796.limit_) (3 : Int) (0 : Int)).bind fun (x7919, x7920, at_7921) =>
      cond (x7920 != (0 : Int))
        (
        .ok ((0 : Int), (0 : Int), ([] : List Int), ([] : List Int), x7920, at_7921))
        (
        chk (inb i7916 ([(16 : Int), (17 : Int), (18 : Int), (0 : Int), (8 : Int), (7 : Int), (9 : Int), (6 : Int), (10 : Int), (5 : Int), (11 : Int), (4 : Int), (12 : Int), (3 : Int), (13 : Int), (2 : Int), (14 : Int), (1 : Int), (15 : Int)] : List Int).length) <|
        chk (inb (rd ([(16 : Int), (17 : Int), (18 : Int), (0 : Int), (8 : Int), (7 : Int), (9 : Int), (6 : Int), (10 : Int), (5 : Int), (11 : Int), (4 : Int), (12 : Int), (3 : Int), (13 : Int), (2 : Int), (14 : Int), (1 : Int), (15 : Int)] : List Int) i7916) l_7912.length) <|
        lt (l_7912.set (Int.toNat (rd ([(16 : Int), (17 : Int), (18 : Int), (0 : Int), (8 : Int), (7 : Int), (9 : Int), (6 : Int), (10 : Int), (5 : Int), (11 : Int), (4 : Int), (12 : Int), (3 : Int), (13 : Int), (2 : Int), (14 : Int), (1 : Int), (15 : Int)] : List Int) i7916)) x7919) fun (zs7935 : (List Int)) =>
        lt ((any7915 || (decide (x7919 > (0 : Int))))) fun (any7937 : Bool) =>
        lt ((w64 (i7916 + (1 : Int)))) fun (i7938 : Int) =>
        mortiseref07_state_head.l1 K s7796 x7814 x7826 x7838 k at_7921 zs7935 any7937 i7938))
      (
      mortiseref07_state_head.j2 K x7814 x7826 at_7909 l_7912 any7915)

def mortiseref07_state_head.m (K : Nat) (s7796 : T_mortiseref07_state) : Res (Int × Int × (List Int) × (List Int) × Int × Int) :=
  (mortiseref07_state_bits.m K s7796 (5 : Int) (257 : Int)).bind fun (x7814, x7815, at_7816) =>
  cond (x7815 != (0 : Int))
    (
    .ok ((0 : Int), (0 : Int), ([] : List Int), ([] : List Int), x7815, at_7816))
    (
    (mortiseref07_state_bits.m K (T_mortiseref07_state.mk (T_mortiseref05_Reader.mk s7796.r_.S_ at_7816) s7796.out_ s7796.limit_) (5 : Int) (1 : Int)).bind fun (x7826, x7827, at_7828) =>
    cond (x7827 != (0 : Int))
      (
      .ok ((0 : Int), (0 : Int), ([] : List Int), ([] : List Int), x7827, at_7828))
      (
      (mortiseref07_state_bits.m K (T_mortiseref07_state.mk (T_mortiseref05_Reader.mk s7796.r_.S_ at_7828) s7796.out_ s7796.limit_) (4 : Int) (4 : Int)).bind fun (x7838, x7839, at_7840) =>
      cond (x7839 != (0 : Int))
        (
        .ok ((0 : Int), (0 : Int), ([] : List Int), ([] : List Int), x7839, at_7840))
        (
        cond ((decide (x7814 > (286 : Int))) || (decide (x7826 > (30 : Int))))
          (
          .ok ((0 : Int), (0 : Int), ([] : List Int), ([] : List Int), (3 : Int), at_7840))
          (
          chk (decide (0 ≤ (19 : Int)) && room (Int.toNat (19 : Int)) 8) <|
          lt (List.replicate (Int.toNat (19 : Int)) (0 : Int)) fun (zs7862 : (List Int)) =>
          (mortiseref07_Order.m K).bind fun _ =>
          mortiseref07_state_head.l1 K s7796 x7814 x7826 x7838 K at_7840 zs7862 false (0 : Int)))))

def mortiseref07_state_row.l3 (K : Nat) (g1 : Int → (List Int) → Res ((List Int) × Int × Int)) (at_8201 : Int) (value8205 : Int) (times8206 : Int) : Nat → (List Int) → Int → Res ((List Int) × Int × Int)
  | 0, _, _ => .fail
  | k + 1, out8236, i8239 =>
    cond (decide (i8239 < times8206))
      (
      chk (room (out8236.length + ([value8205] : List Int).length) 8) <|
      lt (out8236 ++ ([value8205] : List Int)) fun (zs8251 : (List Int)) =>
      lt ((w64 (i8239 + (1 : Int)))) fun (i8252 : Int) =>
      mortiseref07_state_row.l3 K g1 at_8201 value8205 times8206 k zs8251 i8252)
      (
      g1 at_8201 out8236)

def mortiseref07_state_row.j2 (K : Nat) (g1 : Int → (List Int) → Res ((List Int) × Int × Int)) (n_8025 : Int) (out8153 : (List Int)) (at_8201 : Int) (e_8204 : Int) (value8205 : Int) (times8206 : Int) : Res ((List Int) × Int × Int) :=
  cond (e_8204 != (0 : Int))
    (
    .ok (([] : List Int), e_8204, at_8201))
    (
    cond (decide (times8206 > (w64 (n_8025 - (out8153.length : Int)))))
      (
      .ok (([] : List Int), (3 : Int), at_8201))
      (
      mortiseref07_state_row.l3 K (g1) at_8201 value8205 times8206 K out8153 (0 : Int)))

def mortiseref07_state_row.l1 (K : Nat) (s8014 : T_mortiseref07_state) (n_8025 : Int) (c_8026 : T_mortiseref07_code) : Nat → Int → (List Int) → Res ((List Int) × Int × Int)
  | 0, _, _ => .fail
  | k + 1, at_8148, out8153 =>
    cond (decide ((out8153.length : Int) < n_8025))
      (
      (mortiseref06_Next.m K c_8026.l_ c_8026.codes_ (T_mortiseref05_Reader.mk s8014.r_.S_ at_8148)).bind fun (x8158, x8159, at_8160) =>
      cond (x8159 != (0 : Int))
        (
        .ok (([] : List Int), x8159, at_8160))
        (
        cond (decide (x8158 < (16 : Int)))
          (
          chk (room (out8153.length + ([x8158] : List Int).length) 8) <|
          lt (out8153 ++ ([x8158] : List Int)) fun (zs8176 : (List Int)) =>
          mortiseref07_state_row.l1 K s8014 n_8025 c_8026 k at_8160 zs8176)
          (
          lt ((x8158 == (16 : Int))) fun (v8177 : Bool) =>
          cond v8177
            (
            cond ((out8153.length : Int) == (0 : Int))
              (
              .ok (([] : List Int), (3 : Int), at_8160))
              (
              chk (inb (w64 ((out8153.length : Int) - (1 : Int))) out8153.length) <|
              lt ((rd out8153 (w64 ((out8153.length : Int) - (1 : Int))))) fun (value8183 : Int) =>
              (mortiseref07_state_bits.m K (T_mortiseref07_state.mk (T_mortiseref05_Reader.mk s8014.r_.S_ at_8160) s8014.out_ s8014.limit_) (2 : Int) (3 : Int)).bind fun (x8184, x8185, at_8186) =>
              mortiseref07_state_row.j2 K (mortiseref07_state_row.l1 K s8014 n_8025 c_8026 k) n_8025 out8153 at_8186 x8185 value8183 x8184))
            (
            lt ((x8158 == (17 : Int))) fun (v8189 : Bool) =>
            cond v8189
              (
              (mortiseref07_state_bits.m K (T_mortiseref07_state.mk (T_mortiseref05_Reader.mk s8014.r_.S_ at_8160) s8014.out_ s8014.limit_) (3 : Int) (3 : Int)).bind fun (x8191, x8192, at_8193) =>
              mortiseref07_state_row.j2 K (mortiseref07_state_row.l1 K s8014 n_8025 c_8026 k) n_8025 out8153 at_8193 x8192 (0 : Int) x8191)
              (
              (mortiseref07_state_bits.m K (T_mortiseref07_state.mk (T_mortiseref05_Reader.mk s8014.r_.S_ at_8160) s8014.out_ s8014.limit_) (7 : Int) (11 : Int)).bind fun (x8196, x8197, at_8198) =>
              mortiseref07_state_row.j2 K (mortiseref07_state_row.l1 K s8014 n_8025 c_8026 k) n_8025 out8153 at_8198 x8197 (0 : Int) x8196)))))
      (
      .ok (out8153, (0 : Int), at_8148))

def mortiseref07_state_row.m (K : Nat) (s8014 : T_mortiseref07_state) (n_8025 : Int) (c_8026 : T_mortiseref07_code) : Res ((List Int) × Int × Int) :=
  mortiseref07_state_row.l1 K s8014 n_8025 c_8026 K s8014.r_.At_ ([] : List Int)

def mortiseref07_state_dynamic.m (K : Nat) (s7785 : T_mortiseref07_state) : Res (Int × Int × (List Int)) :=
  (mortiseref07_state_head.m K s7785).bind fun (x7988, x7989, l_7992, codes7996, x7998, at_7999) =>
  cond (x7998 != (0 : Int))
    (
    .ok (x7998, at_7999, s7785.out_))
    (
    (mortiseref07_state_row.m K (T_mortiseref07_state.mk (T_mortiseref05_Reader.mk s7785.r_.S_ at_7999) s7785.out_ s7785.limit_) (w64 (x7988 + x7989)) (T_mortiseref07_code.mk l_7992 codes7996)).bind fun (x8266, x8268, at_8269) =>
    cond (x8268 != (0 : Int))
      (
      .ok (x8268, at_8269, s7785.out_))
      (
      chk (subok (0 : Int) x7988 x8266.length) <|
      lt (sub x8266 (0 : Int) x7988) fun (zs8275 : (List Int)) =>
      (mortiseref07_coded.m K zs8275).bind fun (codes8282, x8284) =>
      chk (subok x7988 (x8266.length : Int) x8266.length) <|
      lt (sub x8266 x7988 (x8266.length : Int)) fun (zs8296 : (List Int)) =>
      (mortiseref07_coded.m K zs8296).bind fun (codes8303, x8305) =>
      chk (imp false ((!x8284) || (!x8305)) (inb (256 : Int) x8266.length)) <|
      cond (((!x8284) || (!x8305)) || ((rd x8266 (256 : Int)) == (0 : Int)))
        (
        .ok ((3 : Int), at_8269, s7785.out_))
        (
        (mortiseref07_state_symbols.m K (T_mortiseref07_state.mk (T_mortiseref05_Reader.mk s7785.r_.S_ at_8269) s7785.out_ s7785.limit_) (T_mortiseref07_code.mk zs8275 codes8282) (T_mortiseref07_code.mk zs8296 codes8303)).bind fun (x8320, at_8321, out8325) =>
        .ok (x8320, at_8321, out8325))))

def mortiseref07_state_block.m (K : Nat) (s7155 : T_mortiseref07_state) : Res (Bool × Int × Int × (List Int)) :=
  (mortiseref07_state_bits.m K s7155 (1 : Int) (0 : Int)).bind fun (x7218, x7219, at_7220) =>
  cond (x7219 != (0 : Int))
    (
    .ok (false, x7219, at_7220, s7155.out_))
    (
    (mortiseref07_state_bits.m K (T_mortiseref07_state.mk (T_mortiseref05_Reader.mk s7155.r_.S_ at_7220) s7155.out_ s7155.limit_) (2 : Int) (0 : Int)).bind fun (x7224, x7225, at_7226) =>
    cond (x7225 != (0 : Int))
      (
      .ok (false, x7225, at_7226, s7155.out_))
      (
      lt ((x7224 == (0 : Int))) fun (v7230 : Bool) =>
      cond v7230
        (
        (mortiseref07_state_stored.m K (T_mortiseref07_state.mk (T_mortiseref05_Reader.mk s7155.r_.S_ at_7226) s7155.out_ s7155.limit_)).bind fun (x7328, at_7329, out7333) =>
        lt ((x7218 == (1 : Int))) fun (v7339 : Bool) =>
        .ok (v7339, x7328, at_7329, out7333))
        (
        lt ((x7224 == (1 : Int))) fun (v7340 : Bool) =>
        cond v7340
          (
          (mortiseref07_Fixed.m K).bind fun (x7344, x7348) =>
          (mortiseref07_coded.m K x7344).bind fun (codes7381, x7383) =>
          (mortiseref07_coded.m K x7348).bind fun (codes7396, x7398) =>
          (mortiseref07_state_symbols.m K (T_mortiseref07_state.mk (T_mortiseref05_Reader.mk s7155.r_.S_ at_7226) s7155.out_ s7155.limit_) (T_mortiseref07_code.mk x7344 codes7381) (T_mortiseref07_code.mk x7348 codes7396)).bind fun (x7771, at_7772, out7776) =>
          lt ((x7218 == (1 : Int))) fun (v7782 : Bool) =>
          .ok (v7782, x7771, at_7772, out7776))
          (
          lt ((x7224 == (2 : Int))) fun (v7783 : Bool) =>
          cond v7783
            (
            (mortiseref07_state_dynamic.m K (T_mortiseref07_state.mk (T_mortiseref05_Reader.mk s7155.r_.S_ at_7226) s7155.out_ s7155.limit_)).bind fun (x8342, at_8343, out8347) =>
            lt ((x7218 == (1 : Int))) fun (v8353 : Bool) =>
            .ok (v8353, x8342, at_8343, out8347))
            (
            .ok (false, (3 : Int), at_7226, s7155.out_))))))

def mortiseref07_Inflate.l1 (K : Nat) (t7143 : List UInt8) (limit7144 : Int) : Nat → Int → (List Int) → Res ((List UInt8) × Int × Int)
  | 0, _, _ => .fail
  | k + 1, at_8394, out8399 =>
    (mortiseref07_state_block.m K (T_mortiseref07_state.mk (T_mortiseref05_Reader.mk t7143 at_8394) out8399 limit7144)).bind fun (x8405, x8406, at_8407, out8411) =>
    cond (x8406 != (0 : Int))
      (
      .ok (([] : List UInt8), (0 : Int), x8406))
      (
      cond x8405
        (
        lt ((out8411.map tob)) fun (v8419 : List UInt8) =>
        lt ((iquo .i64 (w64 (at_8407 + (7 : Int))) (8 : Int))) fun (v8421 : Int) =>
        .ok (v8419, v8421, (0 : Int)))
        (
        mortiseref07_Inflate.l1 K t7143 limit7144 k at_8407 out8411))

def mortiseref07_Inflate.m (K : Nat) (t7143 : List UInt8) (limit7144 : Int) : Res ((List UInt8) × Int × Int) :=
  cond ((decide (limit7144 < (0 : Int))) || (decide (limit7144 > (1073741824 : Int))))
    (
    .ok (([] : List UInt8), (0 : Int), (1 : Int)))
    (
    mortiseref07_Inflate.l1 K t7143 limit7144 K (0 : Int) ([] : List Int))

def mortiselaw09_DeflateDynamic.j2 (K : Nat)  (v6963 : Bool) : Res Bool :=
  .ok v6963

def mortiselaw09_DeflateDynamic.j4 (K : Nat)  (v8432 : Bool) : Res Bool :=
  .ok v8432

def mortiselaw09_DeflateDynamic.j3 (K : Nat) (l_6946 : List T_api_Token) (x6953 : List UInt8) (x6954 : Int) : Res Bool :=
  chk (imp false ((x6954 != (0 : Int)) || ((x6953.length : Int) == (0 : Int))) (inb (0 : Int) x6953.length)) <|
  cond (((x6954 != (0 : Int)) || ((x6953.length : Int) == (0 : Int))) || ((irem ((rd x6953 (0 : Int)).toNat : Int) (8 : Int)) != (5 : Int)))
    (
    .ok false)
    (
    (mortiseref08_Expand.m K l_6946 (1073741824 : Int)).bind fun (x7137, x7138) =>
    cond (x7138 != (0 : Int))
      (
      (mortiselaw09_live.m K).bind fun x7140 =>
      .ok x7140)
      (
      cond (decide ((x7137.length : Int) > (20000 : Int)))
        (
        (mortiselaw09_live.m K).bind fun x7142 =>
        .ok x7142)
        (
        (mortiseref07_Inflate.m K x6953 (x7137.length : Int)).bind fun (x8427, x8428, x8429) =>
        cond (((x8427 == x7137) && (x8428 == (x6953.length : Int))) && (x8429 == (0 : Int)))
          (
          (mortiselaw09_live.m K).bind fun x8431 =>
          mortiselaw09_DeflateDynamic.j4 K x8431)
          (
          mortiselaw09_DeflateDynamic.j4 K false))))

def mortiselaw09_DeflateDynamic.l1 (K : Nat) (l_6946 : List T_api_Token) (x6953 : List UInt8) (x6954 : Int) : Nat → Int → Res Bool
  | 0, _ => .fail
  | k + 1, i6955 =>
    cond (decide (i6955 < (l_6946.length : Int)))
      (
      chk (inb i6955 l_6946.length) <|
      (mortiseref08_May.m K (T_api_Token.mk ((rd l_6946 i6955).Lit_) ((rd l_6946 i6955).Len_) ((rd l_6946 i6955).Dist_))).bind fun x6959 =>
      cond (!x6959)
        (
        cond ((x6954 == (1 : Int)) && (x6953 == ([] : List UInt8)))
          (
          (mortiselaw09_live.m K).bind fun x6962 =>
          mortiselaw09_DeflateDynamic.j2 K x6962)
          (
          mortiselaw09_DeflateDynamic.j2 K false))
        (
        lt ((w64 (i6955 + (1 : Int)))) fun (i6965 : Int) =>
        mortiselaw09_DeflateDynamic.l1 K l_6946 x6953 x6954 k i6965))
      (
      mortiselaw09_DeflateDynamic.j3 K l_6946 x6953 x6954)

def mortiselaw09_DeflateDynamic.m (K : Nat) (l_6946 : List T_api_Token) : Res Bool :=
  cond (decide ((l_6946.length : Int) > (300 : Int)))
    (
    (mortiselaw09_live.m K).bind fun x6952 =>
    .ok x6952)
    (
    (deflate_Dynamic.m K l_6946).bind fun (x6953, x6954) =>
    mortiselaw09_DeflateDynamic.l1 K l_6946 x6953 x6954 K (0 : Int))

def mortiselaw09_DeflateBack.j1 (K : Nat)  (v8452 : Bool) : Res Bool :=
  .ok v8452

def mortiselaw09_DeflateBack.m (K : Nat) (s8435 : List UInt8) : Res Bool :=
  cond (decide ((s8435.length : Int) > (4000 : Int)))
    (
    (mortiselaw09_live.m K).bind fun x8437 =>
    .ok x8437)
    (
    (deflate_Deflate.m K s8435).bind fun x8438 =>
    (mortiseref07_Inflate.m K x8438 (s8435.length : Int)).bind fun (x8439, x8440, x8441) =>
    (mortiseref09_Stored.m K s8435).bind fun x8442 =>
    (match_Find.m K s8435).bind fun x8445 =>
    (mortiseref09_Fixed.m K x8445).bind fun (x8448, x8449) =>
    cond ((((((x8439 == s8435) && (x8440 == (x8438.length : Int))) && (x8441 == (0 : Int))) && (x8449 == (0 : Int))) && (decide ((x8438.length : Int) ≤ (x8442.length : Int)))) && (decide ((x8438.length : Int) ≤ (x8448.length : Int))))
      (
      (mortiselaw09_live.m K).bind fun x8451 =>
      mortiselaw09_DeflateBack.j1 K x8451)
      (
      mortiselaw09_DeflateBack.j1 K false))

def mortiselaw09_DeflateAgain.j1 (K : Nat)  (v8471 : Bool) : Res Bool :=
  .ok v8471

def mortiselaw09_DeflateAgain.m (K : Nat) (s8455 : List UInt8) (l_8456 : List T_api_Token) : Res Bool :=
  cond ((decide ((s8455.length : Int) > (4000 : Int))) || (decide ((l_8456.length : Int) > (300 : Int))))
    (
    (mortiselaw09_live.m K).bind fun x8462 =>
    .ok x8462)
    (
    (deflate_Dynamic.m K l_8456).bind fun (x8463, x8464) =>
    (deflate_Dynamic.m K l_8456).bind fun (x8465, x8466) =>
    (deflate_Deflate.m K s8455).bind fun x8467 =>
    (deflate_Deflate.m K s8455).bind fun x8468 =>
    cond (((x8467 == x8468) && (x8463 == x8465)) && (x8464 == x8466))
      (
      (mortiselaw09_live.m K).bind fun x8470 =>
      mortiselaw09_DeflateAgain.j1 K x8470)
      (
      mortiselaw09_DeflateAgain.j1 K false))

def bits_New.m (K : Nat) (s8509 : List UInt8) : Res Unit :=
  .ok ()

def bits_Reader_Bits.j2 (K : Nat) (r8548 : T_bits_Reader) (n_8552 : Int) (v8568 : Int) : Res (Int × Int × Int) :=
  chk (decide (0 ≤ (iand .i64 r8548.place_.at_ (7 : Int)))) <|
  lt ((ishr .u64 v8568 (iand .i64 r8548.place_.at_ (7 : Int)))) fun (v8571 : Int) =>
  chk (decide (0 ≤ n_8552)) <|
  lt ((wr .u32 (iand .u64 v8571 (wr .u64 ((ishl .u64 (1 : Int) n_8552) - (1 : Int)))))) fun (v8575 : Int) =>
  .ok (v8575, (0 : Int), (w64 (r8548.place_.at_ + n_8552)))

def bits_Reader_Bits.l1 (K : Nat) (r8548 : T_bits_Reader) (n_8552 : Int) (first8558 : Int) : Nat → Int → Int → Res (Int × Int × Int)
  | 0, _, _ => .fail
  | k + 1, v8559, i8560 =>
    cond (decide ((w64 ((8 : Int) * (w64 (first8558 + i8560)))) < (w64 (r8548.place_.at_ + n_8552))))
      (
      chk (inb (w64 (first8558 + i8560)) r8548.text_.length) <|
      chk (decide (0 ≤ (w64 ((8 : Int) * i8560)))) <|
      lt ((ior .u64 v8559 (ishl .u64 (wr .u64 ((rd r8548.text_ (w64 (first8558 + i8560))).toNat : Int)) (w64 ((8 : Int) * i8560))))) fun (v8565 : Int) =>
      lt ((w64 (i8560 + (1 : Int)))) fun (i8566 : Int) =>
      bits_Reader_Bits.l1 K r8548 n_8552 first8558 k v8565 i8566)
      (
      bits_Reader_Bits.j2 K r8548 n_8552 v8559)

def bits_Reader_Bits.m (K : Nat) (r8548 : T_bits_Reader) (n_8552 : Int) : Res (Int × Int × Int) :=
  lt (((decide (n_8552 < (0 : Int))) || (decide (n_8552 > (32 : Int))))) fun (v8553 : Bool) =>
  cond v8553
    (
    .ok ((0 : Int), (1 : Int), r8548.place_.at_))
    (
    lt ((decide (n_8552 > (w64 ((w64 ((8 : Int) * (r8548.text_.length : Int))) - r8548.place_.at_))))) fun (v8555 : Bool) =>
    cond v8555
      (
      .ok ((0 : Int), (2 : Int), r8548.place_.at_))
      (
      lt ((iquo .i64 r8548.place_.at_ (8 : Int))) fun (first8558 : Int) =>
      bits_Reader_Bits.l1 K r8548 n_8552 first8558 K (0 : Int) (0 : Int)))

def inflate_must.m (K : Nat) (e_8586 : Int) : Res Unit :=
  cond (e_8586 != (0 : Int))
    (
    .pan (.iface ty_inflate_failed (.agg ⟨[.int .i64 e_8586]⟩)))
    (
    .ok ())

def inflate_reader_number.m (K : Nat) (r8536 : T_inflate_reader) (n_8547 : Int) : Res (Int × Int) :=
  (bits_Reader_Bits.m K r8536.Reader_ n_8547).bind fun (x8581, x8582, at_8583) =>
  (inflate_must.m K x8582).bind fun _ =>
  lt ((wr .i64 x8581)) fun (v8588 : Int) =>
  .ok (v8588, at_8583)

def bits_place_align_bits_Reader.m (K : Nat) (p8621 : T_bits_Reader) : Res Int :=
  .ok (iandn .i64 (w64 (p8621.place_.at_ + (7 : Int))) (7 : Int))

def bits_Reader_Bytes.m (K : Nat) (r8615 : T_bits_Reader) (n_8619 : Int) : Res ((List UInt8) × Int × Int) :=
  cond (decide (n_8619 < (0 : Int)))
    (
    .ok (([] : List UInt8), (1 : Int), r8615.place_.at_))
    (
    (bits_place_align_bits_Reader.m K r8615).bind fun at_8630 =>
    chk (subok (iquo .i64 at_8630 (8 : Int)) (r8615.text_.length : Int) r8615.text_.length) <|
    lt ((sub r8615.text_ (iquo .i64 at_8630 (8 : Int)) (r8615.text_.length : Int))) fun (rest8635 : List UInt8) =>
    cond (decide (n_8619 > (rest8635.length : Int)))
      (
      .ok (([] : List UInt8), (2 : Int), at_8630))
      (
      chk (subok (0 : Int) n_8619 rest8635.length) <|
      lt ((sub rest8635 (0 : Int) n_8619)) fun (v8641 : List UInt8) =>
      .ok (v8641, (0 : Int), (w64 (at_8630 + (w64 ((8 : Int) * n_8619)))))))

def inflate_refuse.m (K : Nat) (bad8662 : Bool) (e_8663 : Int) : Res Unit :=
  cond bad8662
    (
    .pan (.iface ty_inflate_failed (.agg ⟨[.int .i64 e_8663]⟩)))
    (
    .ok ())

def inflate_reader_stored.m (K : Nat) (r8604 : T_inflate_reader) : Res (Int × (List Int)) :=
  (bits_Reader_Bytes.m K r8604.Reader_ (4 : Int)).bind fun (x8647, x8648, at_8649) =>
  (inflate_must.m K x8648).bind fun _ =>
  chk (inb (0 : Int) x8647.length) <|
  chk (inb (1 : Int) x8647.length) <|
  lt ((ior .i64 (wr .i64 ((rd x8647 (0 : Int)).toNat : Int)) (ishl .i64 (wr .i64 ((rd x8647 (1 : Int)).toNat : Int)) (8 : Int)))) fun (n_8656 : Int) =>
  chk (inb (2 : Int) x8647.length) <|
  chk (inb (3 : Int) x8647.length) <|
  (inflate_refuse.m K ((ior .i64 (wr .i64 ((rd x8647 (2 : Int)).toNat : Int)) (ishl .i64 (wr .i64 ((rd x8647 (3 : Int)).toNat : Int)) (8 : Int))) != (ixor .i64 n_8656 (65535 : Int))) (3 : Int)).bind fun _ =>
  (bits_Reader_Bytes.m K (T_bits_Reader.mk (T_bits_place.mk at_8649) r8604.Reader_.text_) n_8656).bind fun (x8665, x8666, at_8667) =>
  (inflate_must.m K x8666).bind fun _ =>
  (inflate_refuse.m K (decide ((w64 ((r8604.out_.length : Int) + n_8656)) > r8604.limit_)) (11 : Int)).bind fun _ =>
  chk (room (r8604.out_.length + x8665.length) 1) <|
  lt (r8604.out_ ++ x8665.map ofb) fun (zs8675 : (List Int)) =>
  .ok (at_8667, zs8675)

def huff_New.l2 (K : Nat) (g1 : (List Int) → Int → Res ((Option T_huff_Table) × Int)) (lengths8803 : List Int) (n_8892 : Int) : Nat → (List Int) → Int → Res ((Option T_huff_Table) × Int)
  | 0, _, _ => .fail
  | k + 1, symbols8924, v8929 =>
    cond (decide (v8929 < (lengths8803.length : Int)))
      (
      chk (inb v8929 lengths8803.length) <|
      lt ((rd lengths8803 v8929)) fun (k_8934 : Int) =>
      cond (k_8934 == n_8892)
        (
        chk (room (symbols8924.length + ([v8929] : List Int).length) 8) <|
        lt (symbols8924 ++ ([v8929] : List Int)) fun (zs8945 : (List Int)) =>
        huff_New.l2 K g1 lengths8803 n_8892 k zs8945 (w64 (v8929 + (1 : Int))))
        (
        huff_New.l2 K g1 lengths8803 n_8892 k symbols8924 (w64 (v8929 + (1 : Int)))))
      (
      lt ((w64 (n_8892 + (1 : Int)))) fun (n_8932 : Int) =>
      g1 symbols8924 n_8932)

def huff_New.l1 (K : Nat) (lengths8803 : List Int) (x8815 : (List Int)) : Nat → (List Int) → Int → Res ((Option T_huff_Table) × Int)
  | 0, _, _ => .fail
  | k + 1, symbols8887, n_8892 =>
    cond (decide (n_8892 ≤ (15 : Int)))
      (
      huff_New.l2 K (huff_New.l1 K lengths8803 x8815 k) lengths8803 n_8892 K symbols8887 (0 : Int))
      (
      .ok ((some (T_huff_Table.mk x8815 symbols8887)), (0 : Int)))

def huff_New.m (K : Nat) (lengths8803 : List Int) : Res ((Option T_huff_Table) × Int) :=
  (huff_Check.m K lengths8803).bind fun x8808 =>
  cond (x8808 != (0 : Int))
    (
    .ok (none, x8808))
    (
    (huff_count.m K lengths8803).bind fun (x8815, x8816) =>
    huff_New.l1 K lengths8803 x8815 K ([] : List Int) (1 : Int))

def inflate_table.m (K : Nat) (l_8798 : List Int) : Res (Option T_huff_Table) :=
  (huff_New.m K l_8798).bind fun (x8966, x8968) =>
  (inflate_refuse.m K (x8968 != (0 : Int)) (3 : Int)).bind fun _ =>
  .ok x8966

def inflate_fixed.j2 (K : Nat) (g1 : (List Int) → Int → Res ((Option T_huff_Table) × (Option T_huff_Table))) (v8735 : Int) (l_8748 : (List Int)) : Res ((Option T_huff_Table) × (Option T_huff_Table)) :=
  cond ((decide (v8735 ≥ (256 : Int))) && (decide (v8735 < (280 : Int))))
    (
    lt (l_8748.set (Int.toNat v8735) (7 : Int)) fun (zs8756 : (List Int)) =>
    g1 zs8756 (w64 (v8735 + (1 : Int))))
    (
    g1 l_8748 (w64 (v8735 + (1 : Int))))

def inflate_fixed.j5 (K : Nat) (l_8759 : (List Int)) (d8793 : (List Int)) : Res ((Option T_huff_Table) × (Option T_huff_Table)) :=
  (inflate_table.m K l_8759).bind fun x8975 =>
  (inflate_table.m K d8793).bind fun x8979 =>
  .ok (x8975, x8979)

def inflate_fixed.l4 (K : Nat) (l_8759 : (List Int)) : Nat → (List Int) → Int → Res ((Option T_huff_Table) × (Option T_huff_Table))
  | 0, _, _ => .fail
  | k + 1, d8780, v8784 =>
    cond (decide (v8784 < (32 : Int)))
      (
      chk (inb v8784 32) <|
      lt (d8780.set (Int.toNat v8784) (5 : Int)) fun (zs8790 : (List Int)) =>
      inflate_fixed.l4 K l_8759 k zs8790 (w64 (v8784 + (1 : Int))))
      (
      inflate_fixed.j5 K l_8759 d8780)

def inflate_fixed.j3 (K : Nat)  (l_8759 : (List Int)) : Res ((Option T_huff_Table) × (Option T_huff_Table)) :=
  inflate_fixed.l4 K l_8759 K (List.replicate 32 (0 : Int)) (0 : Int)

def inflate_fixed.l1 (K : Nat)  : Nat → (List Int) → Int → Res ((Option T_huff_Table) × (Option T_huff_Table))
  | 0, _, _ => .fail
  | k + 1, l_8731, v8735 =>
    cond (decide (v8735 < (288 : Int)))
      (
      chk (inb v8735 288) <|
      lt (l_8731.set (Int.toNat v8735) (8 : Int)) fun (zs8741 : (List Int)) =>
      cond ((decide (v8735 ≥ (144 : Int))) && (decide (v8735 < (256 : Int))))
        (
        lt (zs8741.set (Int.toNat v8735) (9 : Int)) fun (zs8746 : (List Int)) =>
        inflate_fixed.j2 K (inflate_fixed.l1 K k) v8735 zs8746)
        (
        inflate_fixed.j2 K (inflate_fixed.l1 K k) v8735 zs8741))
      (
      inflate_fixed.j3 K l_8731)

def inflate_fixed.m (K : Nat) : Res ((Option T_huff_Table) × (Option T_huff_Table)) :=
  inflate_fixed.l1 K K (List.replicate 288 (0 : Int)) (0 : Int)

def huff_Table_Next.j2 (K : Nat) (r9079 : T_bits_Reader) (at_9147 : Int) : Res (Int × Int × Int) :=
  .ok ((0 : Int), (3 : Int), r9079.place_.at_)

def huff_Table_Next.l1 (K : Nat) (t9070 : T_huff_Table) (r9079 : T_bits_Reader) : Nat → Int → Int → Int → Int → Int → Res (Int × Int × Int)
  | 0, _, _, _, _, _ => .fail
  | k + 1, at_9119, code9122, first9123, passed9124, n_9125 =>
    cond (decide (passed9124 < (t9070.symbols_.length : Int)))
      (
      (bits_Reader_Bits.m K (T_bits_Reader.mk (T_bits_place.mk at_9119) r9079.text_) (1 : Int)).bind fun (x9128, x9129, at_9130) =>
      cond (x9129 != (0 : Int))
        (
        .ok ((0 : Int), x9129, r9079.place_.at_))
        (
        lt ((ior .i64 (ishl .i64 code9122 (1 : Int)) (wr .i64 x9128))) fun (code9136 : Int) =>
        lt ((ishl .i64 first9123 (1 : Int))) fun (first9137 : Int) =>
        chk (inb n_9125 16) <|
        lt ((rd t9070.counts_ n_9125)) fun (k_9139 : Int) =>
        cond (decide ((w64 (code9136 - first9137)) < k_9139))
          (
          chk (inb (w64 ((w64 (passed9124 + code9136)) - first9137)) t9070.symbols_.length) <|
          lt ((rd t9070.symbols_ (w64 ((w64 (passed9124 + code9136)) - first9137)))) fun (v9142 : Int) =>
          .ok (v9142, (0 : Int), at_9130))
          (
          lt ((w64 (first9137 + k_9139))) fun (first9143 : Int) =>
          lt ((w64 (passed9124 + k_9139))) fun (passed9144 : Int) =>
          lt ((w64 (n_9125 + (1 : Int)))) fun (n_9145 : Int) =>
          huff_Table_Next.l1 K t9070 r9079 k at_9130 code9136 first9143 passed9144 n_9145)))
      (
      huff_Table_Next.j2 K r9079 at_9119)

def huff_Table_Next.m (K : Nat) (t9070 : T_huff_Table) (r9079 : T_bits_Reader) : Res (Int × Int × Int) :=
  huff_Table_Next.l1 K t9070 r9079 K r9079.place_.at_ (0 : Int) (0 : Int) (0 : Int) (1 : Int)

def inflate_reader_symbol.m (K : Nat) (r9050 : T_inflate_reader) (t9061 : T_huff_Table) : Res (Int × Int) :=
  (huff_Table_Next.m K t9061 r9050.Reader_).bind fun (x9158, x9159, at_9160) =>
  (inflate_must.m K x9159).bind fun _ =>
  .ok (x9158, at_9160)

def inflate_reader_far.m (K : Nat) (r9188 : T_inflate_reader) (x9199 : T_inflate_run) : Res (Int × Int) :=
  (inflate_reader_number.m K r9188 x9199.bits_).bind fun (x9203, at_9204) =>
  lt ((w64 (x9199.from_ + x9203))) fun (v9207 : Int) =>
  .ok (v9207, at_9204)

def inflate_reader_symbols.l2 (K : Nat) (g1 : Int → (List Int) → Res (Int × (List Int))) (x9318 : Int) (x9327 : Int) (at_9328 : Int) : Nat → (List Int) → Int → Res (Int × (List Int))
  | 0, _, _ => .fail
  | k + 1, out9358, v9363 =>
    cond (decide (v9363 < x9318))
      (
      chk (inb (w64 ((out9358.length : Int) - x9327)) out9358.length) <|
      chk (room (out9358.length + ([(rd out9358 (w64 ((out9358.length : Int) - x9327)))] : List Int).length) 1) <|
      lt (out9358 ++ ([(rd out9358 (w64 ((out9358.length : Int) - x9327)))] : List Int)) fun (zs9377 : (List Int)) =>
      inflate_reader_symbols.l2 K g1 x9318 x9327 at_9328 k zs9377 (w64 (v9363 + (1 : Int))))
      (
      g1 at_9328 out9358)

def inflate_reader_symbols.l1 (K : Nat) (r9020 : T_inflate_reader) (literals9031 : T_huff_Table) (back9040 : T_huff_Table) : Nat → Int → (List Int) → Res (Int × (List Int))
  | 0, _, _ => .fail
  | k + 1, at_9286, out9291 =>
    (inflate_reader_symbol.m K (T_inflate_reader.mk (T_bits_Reader.mk (T_bits_place.mk at_9286) r9020.Reader_.text_) out9291 r9020.limit_) literals9031).bind fun (x9297, at_9298) =>
    lt ((x9297 == (256 : Int))) fun (v9301 : Bool) =>
    cond v9301
      (
      .ok (at_9298, out9291))
      (
      lt ((decide (x9297 < (256 : Int)))) fun (v9303 : Bool) =>
      cond v9303
        (
        (inflate_refuse.m K ((out9291.length : Int) == r9020.limit_) (11 : Int)).bind fun _ =>
        chk (room (out9291.length + ([(wr .u8 x9297)] : List Int).length) 1) <|
        lt (out9291 ++ ([(wr .u8 x9297)] : List Int)) fun (zs9314 : (List Int)) =>
        inflate_reader_symbols.l1 K r9020 literals9031 back9040 k at_9298 zs9314)
        (
        (inflate_refuse.m K (decide (x9297 ≥ (286 : Int))) (3 : Int)).bind fun _ =>
        chk (inb (w64 (x9297 - (257 : Int))) 29) <|
        (inflate_reader_far.m K (T_inflate_reader.mk (T_bits_Reader.mk (T_bits_place.mk at_9298) r9020.Reader_.text_) out9291 r9020.limit_) (T_inflate_run.mk ((rd tab_inflate_lengths (w64 (x9297 - (257 : Int)))).from_) ((rd tab_inflate_lengths (w64 (x9297 - (257 : Int)))).bits_))).bind fun (x9318, at_9319) =>
        (inflate_reader_symbol.m K (T_inflate_reader.mk (T_bits_Reader.mk (T_bits_place.mk at_9319) r9020.Reader_.text_) out9291 r9020.limit_) back9040).bind fun (x9322, at_9323) =>
        (inflate_refuse.m K (decide (x9322 ≥ (30 : Int))) (3 : Int)).bind fun _ =>
        chk (inb x9322 30) <|
        (inflate_reader_far.m K (T_inflate_reader.mk (T_bits_Reader.mk (T_bits_place.mk at_9323) r9020.Reader_.text_) out9291 r9020.limit_) (T_inflate_run.mk ((rd tab_inflate_distances x9322).from_) ((rd tab_inflate_distances x9322).bits_))).bind fun (x9327, at_9328) =>
        (inflate_refuse.m K (decide (x9327 > (out9291.length : Int))) (3 : Int)).bind fun _ =>
        (inflate_refuse.m K (decide ((w64 ((out9291.length : Int) + x9318)) > r9020.limit_)) (11 : Int)).bind fun _ =>
        inflate_reader_symbols.l2 K (inflate_reader_symbols.l1 K r9020 literals9031 back9040 k) x9318 x9327 at_9328 K out9291 (0 : Int)))

def inflate_reader_symbols.m (K : Nat) (r9020 : T_inflate_reader) (literals9031 : T_huff_Table) (back9040 : T_huff_Table) : Res (Int × (List Int)) :=
  inflate_reader_symbols.l1 K r9020 literals9031 back9040 K r9020.Reader_.place_.at_ r9020.out_

def inflate_reader_row.l3 (K : Nat) (g1 : Int → (List Int) → Res ((List Int) × Int)) (at_9651 : Int) (value9654 : Int) (times9655 : Int) : Nat → (List Int) → Int → Res ((List Int) × Int)
  | 0, _, _ => .fail
  | k + 1, l_9678, v9681 =>
    cond (decide (v9681 < times9655))
      (
      chk (room (l_9678.length + ([value9654] : List Int).length) 8) <|
      lt (l_9678 ++ ([value9654] : List Int)) fun (zs9693 : (List Int)) =>
      inflate_reader_row.l3 K g1 at_9651 value9654 times9655 k zs9693 (w64 (v9681 + (1 : Int))))
      (
      g1 at_9651 l_9678)

def inflate_reader_row.j2 (K : Nat) (g1 : Int → (List Int) → Res ((List Int) × Int)) (n_9513 : Int) (l_9616 : (List Int)) (at_9651 : Int) (value9654 : Int) (times9655 : Int) : Res ((List Int) × Int) :=
  (inflate_refuse.m K (decide (times9655 > (w64 (n_9513 - (l_9616.length : Int))))) (3 : Int)).bind fun _ =>
  inflate_reader_row.l3 K (g1) at_9651 value9654 times9655 K l_9616 (0 : Int)

def inflate_reader_row.l1 (K : Nat) (r9502 : T_inflate_reader) (n_9513 : Int) (t9514 : T_huff_Table) : Nat → Int → (List Int) → Res ((List Int) × Int)
  | 0, _, _ => .fail
  | k + 1, at_9611, l_9616 =>
    cond (decide ((l_9616.length : Int) < n_9513))
      (
      (inflate_reader_symbol.m K (T_inflate_reader.mk (T_bits_Reader.mk (T_bits_place.mk at_9611) r9502.Reader_.text_) r9502.out_ r9502.limit_) t9514).bind fun (x9621, at_9622) =>
      lt ((decide (x9621 < (16 : Int)))) fun (v9625 : Bool) =>
      cond v9625
        (
        inflate_reader_row.j2 K (inflate_reader_row.l1 K r9502 n_9513 t9514 k) n_9513 l_9616 at_9622 x9621 (1 : Int))
        (
        lt ((x9621 == (16 : Int))) fun (v9627 : Bool) =>
        cond v9627
          (
          (inflate_refuse.m K ((l_9616.length : Int) == (0 : Int)) (3 : Int)).bind fun _ =>
          chk (inb (w64 ((l_9616.length : Int) - (1 : Int))) l_9616.length) <|
          (inflate_reader_number.m K (T_inflate_reader.mk (T_bits_Reader.mk (T_bits_place.mk at_9622) r9502.Reader_.text_) r9502.out_ r9502.limit_) (2 : Int)).bind fun (x9631, at_9632) =>
          lt ((rd l_9616 (w64 ((l_9616.length : Int) - (1 : Int))))) fun (value9635 : Int) =>
          lt ((w64 ((3 : Int) + x9631))) fun (times9637 : Int) =>
          inflate_reader_row.j2 K (inflate_reader_row.l1 K r9502 n_9513 t9514 k) n_9513 l_9616 at_9632 value9635 times9637)
          (
          lt ((x9621 == (17 : Int))) fun (v9639 : Bool) =>
          cond v9639
            (
            (inflate_reader_number.m K (T_inflate_reader.mk (T_bits_Reader.mk (T_bits_place.mk at_9622) r9502.Reader_.text_) r9502.out_ r9502.limit_) (3 : Int)).bind fun (x9641, at_9642) =>
            lt ((w64 ((3 : Int) + x9641))) fun (times9645 : Int) =>
            inflate_reader_row.j2 K (inflate_reader_row.l1 K r9502 n_9513 t9514 k) n_9513 l_9616 at_9642 (0 : Int) times9645)
            (
            (inflate_reader_number.m K (T_inflate_reader.mk (T_bits_Reader.mk (T_bits_place.mk at_9622) r9502.Reader_.text_) r9502.out_ r9502.limit_) (7 : Int)).bind fun (x9646, at_9647) =>
            lt ((w64 ((11 : Int) + x9646))) fun (times9650 : Int) =>
            inflate_reader_row.j2 K (inflate_reader_row.l1 K r9502 n_9513 t9514 k) n_9513 l_9616 at_9647 (0 : Int) times9650))))
      (
      .ok (l_9616, at_9611))

def inflate_reader_row.m (K : Nat) (r9502 : T_inflate_reader) (n_9513 : Int) (t9514 : T_huff_Table) : Res ((List Int) × Int) :=
  inflate_reader_row.l1 K r9502 n_9513 t9514 K r9502.Reader_.place_.at_ ([] : List Int)

def inflate_reader_dynamic.j2 (K : Nat) (r9404 : T_inflate_reader) (n_9423 : Int) (d9424 : Int) (at_9479 : Int) (l_9482 : (List Int)) : Res ((Option T_huff_Table) × (Option T_huff_Table) × Int) :=
  (inflate_refuse.m K (l_9482 == ([0, 0, 0, 0, 0, 0, 0, 0, 0, 0, 0, 0, 0, 0, 0, 0, 0, 0, 0] : List Int)) (3 : Int)).bind fun _ =>
  (inflate_table.m K l_9482).bind fun x9488 =>
  unw x9488 fun x9491 =>
  (inflate_reader_row.m K (T_inflate_reader.mk (T_bits_Reader.mk (T_bits_place.mk at_9479) r9404.Reader_.text_) r9404.out_ r9404.limit_) (w64 (n_9423 + d9424)) x9491).bind fun (x9706, at_9708) =>
  chk (inb (256 : Int) x9706.length) <|
  (inflate_refuse.m K ((rd x9706 (256 : Int)) == (0 : Int)) (3 : Int)).bind fun _ =>
  chk (subok (0 : Int) n_9423 x9706.length) <|
  lt (sub x9706 (0 : Int) n_9423) fun (zs9714 : (List Int)) =>
  chk (subok n_9423 (x9706.length : Int) x9706.length) <|
  lt (sub x9706 n_9423 (x9706.length : Int)) fun (zs9721 : (List Int)) =>
  (inflate_table.m K zs9714).bind fun x9728 =>
  (inflate_table.m K zs9721).bind fun x9732 =>
  .ok (x9728, x9732, at_9708)

def inflate_reader_dynamic.l1 (K : Nat) (r9404 : T_inflate_reader) (n_9423 : Int) (d9424 : Int) (some_9429 : Int) : Nat → Int → (List Int) → Int → Res ((Option T_huff_Table) × (Option T_huff_Table) × Int)
  | 0, _, _, _ => .fail
  | k + 1, at_9456, l_9459, v9463 =>
    cond (decide (v9463 < (19 : Int)))
      (
      chk (inb v9463 19) <|
      lt ((rd tab_inflate_order v9463)) fun (s9467 : Int) =>
      cond (decide (v9463 < some_9429))
        (
        (inflate_reader_number.m K (T_inflate_reader.mk (T_bits_Reader.mk (T_bits_place.mk at_9456) r9404.Reader_.text_) r9404.out_ r9404.limit_) (3 : Int)).bind fun (x9469, at_9470) =>
        chk (inb s9467 19) <|
        lt (l_9459.set (Int.toNat s9467) x9469) fun (zs9476 : (List Int)) =>
        inflate_reader_dynamic.l1 K r9404 n_9423 d9424 some_9429 k at_9470 zs9476 (w64 (v9463 + (1 : Int))))
        (
        inflate_reader_dynamic.l1 K r9404 n_9423 d9424 some_9429 k at_9456 l_9459 (w64 (v9463 + (1 : Int)))))
      (
      inflate_reader_dynamic.j2 K r9404 n_9423 d9424 at_9456 l_9459)

def inflate_reader_dynamic.m (K : Nat) (r9404 : T_inflate_reader) : Res ((Option T_huff_Table) × (Option T_huff_Table) × Int) :=
  (inflate_reader_number.m K r9404 (5 : Int)).bind fun (x9415, at_9416) =>
  (inflate_reader_number.m K (T_inflate_reader.mk (T_bits_Reader.mk (T_bits_place.mk at_9416) r9404.Reader_.text_) r9404.out_ r9404.limit_) (5 : Int)).bind fun (x9419, at_9420) =>
  lt ((w64 (x9415 + (257 : Int)))) fun (n_9423 : Int) =>
  lt ((w64 (x9419 + (1 : Int)))) fun (d9424 : Int) =>
  (inflate_reader_number.m K (T_inflate_reader.mk (T_bits_Reader.mk (T_bits_place.mk at_9420) r9404.Reader_.text_) r9404.out_ r9404.limit_) (4 : Int)).bind fun (x9425, at_9426) =>
  lt ((w64 (x9425 + (4 : Int)))) fun (some_9429 : Int) =>
  (inflate_refuse.m K ((decide (n_9423 > (286 : Int))) || (decide (d9424 > (30 : Int)))) (3 : Int)).bind fun _ =>
  inflate_reader_dynamic.l1 K r9404 n_9423 d9424 some_9429 K at_9426 (List.replicate 19 (0 : Int)) (0 : Int)

def inflate_reader_block.m (K : Nat) (r8525 : T_inflate_reader) : Res (Bool × Int × (List Int)) :=
  (inflate_reader_number.m K r8525 (1 : Int)).bind fun (x8593, at_8594) =>
  lt ((x8593 == (1 : Int))) fun (last8597 : Bool) =>
  (inflate_reader_number.m K (T_inflate_reader.mk (T_bits_Reader.mk (T_bits_place.mk at_8594) r8525.Reader_.text_) r8525.out_ r8525.limit_) (2 : Int)).bind fun (x8598, at_8599) =>
  lt ((x8598 == (0 : Int))) fun (v8602 : Bool) =>
  cond v8602
    (
    (inflate_reader_stored.m K (T_inflate_reader.mk (T_bits_Reader.mk (T_bits_place.mk at_8599) r8525.Reader_.text_) r8525.out_ r8525.limit_)).bind fun (at_8688, out8692) =>
    .ok (last8597, at_8688, out8692))
    (
    lt ((x8598 == (1 : Int))) fun (v8698 : Bool) =>
    cond v8698
      (
      (inflate_fixed.m K).bind fun (x8991, x8994) =>
      unw x8991 fun x8998 =>
      unw x8994 fun x9009 =>
      (inflate_reader_symbols.m K (T_inflate_reader.mk (T_bits_Reader.mk (T_bits_place.mk at_8599) r8525.Reader_.text_) r8525.out_ r8525.limit_) x8998 x9009).bind fun (at_9392, out9396) =>
      .ok (last8597, at_9392, out9396))
      (
      lt ((x8598 == (2 : Int))) fun (v9402 : Bool) =>
      cond v9402
        (
        (inflate_reader_dynamic.m K (T_inflate_reader.mk (T_bits_Reader.mk (T_bits_place.mk at_8599) r8525.Reader_.text_) r8525.out_ r8525.limit_)).bind fun (x9747, x9750, at_9752) =>
        unw x9747 fun x9757 =>
        unw x9750 fun x9768 =>
        (inflate_reader_symbols.m K (T_inflate_reader.mk (T_bits_Reader.mk (T_bits_place.mk at_9752) r8525.Reader_.text_) r8525.out_ r8525.limit_) x9757 x9768).bind fun (at_9779, out9783) =>
        .ok (last8597, at_9779, out9783))
        (
        (inflate_refuse.m K true (3 : Int)).bind fun _ =>
        .ok (last8597, at_8599, r8525.out_))))

def bits_Reader_At.m (K : Nat) (r9857 : T_bits_Reader) : Res Unit :=
  .ok ()

def inflate_Inflate.h1 (K : Nat)  (v8501 : Value) : Res ((List UInt8) × Int × Int) :=
  unw (asE ty_inflate_failed .i64 v8501) fun e8499 =>
  .ok (([] : List UInt8), (0 : Int), e8499)

def inflate_Inflate.j4 (K : Nat) (s8478 : List UInt8) (at_9846 : Int) (out9851 : (List Int)) : Res ((List UInt8) × Int × Int) :=
  (bits_Reader_At.m K (T_bits_Reader.mk (T_bits_place.mk at_9846) s8478)).bind fun _ =>
  .ok ((out9851.map tob), (iquo .i64 (w64 (at_9846 + (7 : Int))) (8 : Int)), (0 : Int))

def inflate_Inflate.l3 (K : Nat) (s8478 : List UInt8) (limit8479 : Int) : Nat → Int → (List Int) → Res ((List UInt8) × Int × Int)
  | 0, _, _ => .fail
  | k + 1, at_9822, out9827 =>
    (inflate_reader_block.m K (T_inflate_reader.mk (T_bits_Reader.mk (T_bits_place.mk at_9822) s8478) out9827 limit8479)).bind fun (x9833, at_9834, out9838) =>
    cond (!x9833)
      (
      inflate_Inflate.l3 K s8478 limit8479 k at_9834 out9838)
      (
      inflate_Inflate.j4 K s8478 at_9834 out9838)

def inflate_Inflate.j2 (K : Nat) (s8478 : List UInt8) (limit8479 : Int) : Res ((List UInt8) × Int × Int) :=
  (bits_New.m K s8478).bind fun _ =>
  inflate_Inflate.l3 K s8478 limit8479 K (0 : Int) ([] : List Int)

def inflate_Inflate.m (K : Nat) (s8478 : List UInt8) (limit8479 : Int) : Res ((List UInt8) × Int × Int) :=
  cond ((decide (limit8479 < (0 : Int))) || (decide (limit8479 > (1073741824 : Int))))
    (
    .ok (([] : List UInt8), (0 : Int), (1 : Int)))
    (
    (inflate_Inflate.j2 K s8478 limit8479).catch (inflate_Inflate.h1 K))

def mortiselaw09_DeflateInflate.j1 (K : Nat)  (v9876 : Bool) : Res Bool :=
  .ok v9876

def mortiselaw09_DeflateInflate.m (K : Nat) (s8474 : List UInt8) : Res Bool :=
  cond (decide ((s8474.length : Int) > (100000 : Int)))
    (
    (mortiselaw09_live.m K).bind fun x8476 =>
    .ok x8476)
    (
    (deflate_Deflate.m K s8474).bind fun x8477 =>
    (inflate_Inflate.m K x8477 (s8474.length : Int)).bind fun (x9871, x9872, x9873) =>
    cond ((((x9871 == s8474) && (x9872 == (x8477.length : Int))) && (x9873 == (0 : Int))) && (decide ((x8477.length : Int) ≤ (w64 ((s8474.length : Int) + (w64 ((5 : Int) * (w64 ((1 : Int) + (iquo .i64 (s8474.length : Int) (65535 : Int)))))))))))
      (
      (mortiselaw09_live.m K).bind fun x9875 =>
      mortiselaw09_DeflateInflate.j1 K x9875)
      (
      mortiselaw09_DeflateInflate.j1 K false))
end Go.Mo
