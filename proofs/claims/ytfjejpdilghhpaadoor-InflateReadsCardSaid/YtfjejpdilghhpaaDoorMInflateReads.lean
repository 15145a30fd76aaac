/- Models of the Go functions that this statement reaches, printed by a program of mine: nothing is proved but lengths of tables. -/
import Derived.Test.YtfjejpdilghhpaaDoorOwn
set_option linter.unusedVariables false
set_option linter.unusedSimpArgs false
namespace Go.Mo
open Go Go.Sl
structure T_bits_place where
  at_ : Int
  deriving Inhabited
structure T_bits_Reader where
  place_ : T_bits_place
  text_ : List UInt8
  deriving Inhabited
structure T_inflate_reader where
  Reader_ : T_bits_Reader
  out_ : (List Int)
  limit_ : Int
  deriving Inhabited
structure T_huff_Table where
  counts_ : (List Int)
  symbols_ : (List Int)
  deriving Inhabited
structure T_inflate_run where
  from_ : Int
  bits_ : Int
  deriving Inhabited
structure T_mortiseref05_Reader where
  S_ : List UInt8
  At_ : Int
  deriving Inhabited
structure T_mortiseref07_state where
  r_ : T_mortiseref05_Reader
  out_ : (List Int)
  limit_ : Int
  deriving Inhabited
structure T_mortiseref07_code where
  l_ : (List Int)
  codes_ : (List Int)
  deriving Inhabited
abbrev ty_inflate_failed : TypeId := 39
def tab_inflate_lengths : List T_inflate_run := [⟨3, 0⟩, ⟨4, 0⟩, ⟨5, 0⟩, ⟨6, 0⟩, ⟨7, 0⟩, ⟨8, 0⟩, ⟨9, 0⟩, ⟨10, 0⟩, ⟨11, 1⟩, ⟨13, 1⟩, ⟨15, 1⟩, ⟨17, 1⟩, ⟨19, 2⟩, ⟨23, 2⟩, ⟨27, 2⟩, ⟨31, 2⟩, ⟨35, 3⟩, ⟨43, 3⟩, ⟨51, 3⟩, ⟨59, 3⟩, ⟨67, 4⟩, ⟨83, 4⟩, ⟨99, 4⟩, ⟨115, 4⟩, ⟨131, 5⟩, ⟨163, 5⟩, ⟨195, 5⟩, ⟨227, 5⟩, ⟨258, 0⟩]
theorem tab_inflate_lengths_len : tab_inflate_lengths.length = 29 := by decide
def tab_inflate_distances : List T_inflate_run := [⟨1, 0⟩, ⟨2, 0⟩, ⟨3, 0⟩, ⟨4, 0⟩, ⟨5, 1⟩, ⟨7, 1⟩, ⟨9, 2⟩, ⟨13, 2⟩, ⟨17, 3⟩, ⟨25, 3⟩, ⟨33, 4⟩, ⟨49, 4⟩, ⟨65, 5⟩, ⟨97, 5⟩, ⟨129, 6⟩, ⟨193, 6⟩, ⟨257, 7⟩, ⟨385, 7⟩, ⟨513, 8⟩, ⟨769, 8⟩, ⟨1025, 9⟩, ⟨1537, 9⟩, ⟨2049, 10⟩, ⟨3073, 10⟩, ⟨4097, 11⟩, ⟨6145, 11⟩, ⟨8193, 12⟩, ⟨12289, 12⟩, ⟨16385, 13⟩, ⟨24577, 13⟩]
theorem tab_inflate_distances_len : tab_inflate_distances.length = 30 := by decide
def tab_inflate_order : List Int := [16, 17, 18, 0, 8, 7, 9, 6, 10, 5, 11, 4, 12, 3, 13, 2, 14, 1, 15]
theorem tab_inflate_order_len : tab_inflate_order.length = 19 := by decide

def bits_New.m (K : Nat) (s35 : List UInt8) : Res Unit :=
  .ok ()

def bits_Reader_Bits.j2 (K : Nat) (r74 : T_bits_Reader) (n_78 : Int) (v94 : Int) : Res (Int × Int × Int) :=
  chk (decide (0 ≤ (iand .i64 r74.place_.at_ (7 : Int)))) <|
  lt ((ishr .u64 v94 (iand .i64 r74.place_.at_ (7 : Int)))) fun (v97 : Int) =>
  chk (decide (0 ≤ n_78)) <|
  lt ((wr .u32 (iand .u64 v97 (wr .u64 ((ishl .u64 (1 : Int) n_78) - (1 : Int)))))) fun (v101 : Int) =>
  .ok (v101, (0 : Int), (w64 (r74.place_.at_ + n_78)))

def bits_Reader_Bits.l1 (K : Nat) (r74 : T_bits_Reader) (n_78 : Int) (first84 : Int) : Nat → Int → Int → Res (Int × Int × Int)
  | 0, _, _ => .fail
  | k + 1, v85, i86 =>
    cond (decide ((w64 ((8 : Int) * (w64 (first84 + i86)))) < (w64 (r74.place_.at_ + n_78))))
      (
      chk (inb (w64 (first84 + i86)) r74.text_.length) <|
      chk (decide (0 ≤ (w64 ((8 : Int) * i86)))) <|
      lt ((ior .u64 v85 (ishl .u64 (wr .u64 ((rd r74.text_ (w64 (first84 + i86))).toNat : Int)) (w64 ((8 : Int) * i86))))) fun (v91 : Int) =>
      lt ((w64 (i86 + (1 : Int)))) fun (i92 : Int) =>
      bits_Reader_Bits.l1 K r74 n_78 first84 k v91 i92)
      (
      bits_Reader_Bits.j2 K r74 n_78 v85)

def bits_Reader_Bits.m (K : Nat) (r74 : T_bits_Reader) (n_78 : Int) : Res (Int × Int × Int) :=
  lt (((decide (n_78 < (0 : Int))) || (decide (n_78 > (32 : Int))))) fun (v79 : Bool) =>
  cond v79
    (
    .ok ((0 : Int), (1 : Int), r74.place_.at_))
    (
    lt ((decide (n_78 > (w64 ((w64 ((8 : Int) * (r74.text_.length : Int))) - r74.place_.at_))))) fun (v81 : Bool) =>
    cond v81
      (
      .ok ((0 : Int), (2 : Int), r74.place_.at_))
      (
      lt ((iquo .i64 r74.place_.at_ (8 : Int))) fun (first84 : Int) =>
      bits_Reader_Bits.l1 K r74 n_78 first84 K (0 : Int) (0 : Int)))

def inflate_must.m (K : Nat) (e_112 : Int) : Res Unit :=
  cond (e_112 != (0 : Int))
    (
    .pan (.iface ty_inflate_failed (.agg ⟨[.int .i64 e_112]⟩)))
    (
    .ok ())

def inflate_reader_number.m (K : Nat) (r62 : T_inflate_reader) (n_73 : Int) : Res (Int × Int) :=
  (bits_Reader_Bits.m K r62.Reader_ n_73).bind fun (x107, x108, at_109) =>
  (inflate_must.m K x108).bind fun _ =>
  lt ((wr .i64 x107)) fun (v114 : Int) =>
  .ok (v114, at_109)

def bits_place_align_bits_Reader.m (K : Nat) (p147 : T_bits_Reader) : Res Int :=
  .ok (iandn .i64 (w64 (p147.place_.at_ + (7 : Int))) (7 : Int))

def bits_Reader_Bytes.m (K : Nat) (r141 : T_bits_Reader) (n_145 : Int) : Res ((List UInt8) × Int × Int) :=
  cond (decide (n_145 < (0 : Int)))
    (
    .ok (([] : List UInt8), (1 : Int), r141.place_.at_))
    (
    (bits_place_align_bits_Reader.m K r141).bind fun at_156 =>
    chk (subok (iquo .i64 at_156 (8 : Int)) (r141.text_.length : Int) r141.text_.length) <|
    lt ((sub r141.text_ (iquo .i64 at_156 (8 : Int)) (r141.text_.length : Int))) fun (rest161 : List UInt8) =>
    cond (decide (n_145 > (rest161.length : Int)))
      (
      .ok (([] : List UInt8), (2 : Int), at_156))
      (
      chk (subok (0 : Int) n_145 rest161.length) <|
      lt ((sub rest161 (0 : Int) n_145)) fun (v167 : List UInt8) =>
      .ok (v167, (0 : Int), (w64 (at_156 + (w64 ((8 : Int) * n_145)))))))

def inflate_refuse.m (K : Nat) (bad188 : Bool) (e_189 : Int) : Res Unit :=
  cond bad188
    (
    .pan (.iface ty_inflate_failed (.agg ⟨[.int .i64 e_189]⟩)))
    (
    .ok ())

def inflate_reader_stored.m (K : Nat) (r130 : T_inflate_reader) : Res (Int × (List Int)) :=
  (bits_Reader_Bytes.m K r130.Reader_ (4 : Int)).bind fun (x173, x174, at_175) =>
  (inflate_must.m K x174).bind fun _ =>
  chk (inb (0 : Int) x173.length) <|
  chk (inb (1 : Int) x173.length) <|
  lt ((ior .i64 (wr .i64 ((rd x173 (0 : Int)).toNat : Int)) (ishl .i64 (wr .i64 ((rd x173 (1 : Int)).toNat : Int)) (8 : Int)))) fun (n_182 : Int) =>
  chk (inb (2 : Int) x173.length) <|
  chk (inb (3 : Int) x173.length) <|
  (inflate_refuse.m K ((ior .i64 (wr .i64 ((rd x173 (2 : Int)).toNat : Int)) (ishl .i64 (wr .i64 ((rd x173 (3 : Int)).toNat : Int)) (8 : Int))) != (ixor .i64 n_182 (65535 : Int))) (3 : Int)).bind fun _ =>
  (bits_Reader_Bytes.m K (T_bits_Reader.mk (T_bits_place.mk at_175) r130.Reader_.text_) n_182).bind fun (x191, x192, at_193) =>
  (inflate_must.m K x192).bind fun _ =>
  (inflate_refuse.m K (decide ((w64 ((r130.out_.length : Int) + n_182)) > r130.limit_)) (11 : Int)).bind fun _ =>
  chk (room (r130.out_.length + x191.length) 1) <|
  lt (r130.out_ ++ x191.map ofb) fun (zs201 : (List Int)) =>
  .ok (at_193, zs201)

def huff_count.j2 (K : Nat)  (c_386 : (List Int)) : Res ((List Int) × Bool) :=
  lt (c_386.set (Int.toNat (0 : Int)) (0 : Int)) fun (zs393 : (List Int)) =>
  .ok (zs393, true)

def huff_count.l1 (K : Nat) (lengths339 : List Int) : Nat → (List Int) → Int → Res ((List Int) × Bool)
  | 0, _, _ => .fail
  | k + 1, c_368, v372 =>
    cond (decide (v372 < (lengths339.length : Int)))
      (
      chk (inb v372 lengths339.length) <|
      lt ((rd lengths339 v372)) fun (n_376 : Int) =>
      cond ((decide (n_376 < (0 : Int))) || (decide (n_376 > (15 : Int))))
        (
        .ok (c_368, false))
        (
        chk (inb n_376 16) <|
        lt (c_368.set (Int.toNat n_376) (w64 ((rd c_368 n_376) + (1 : Int)))) fun (zs383 : (List Int)) =>
        huff_count.l1 K lengths339 k zs383 (w64 (v372 + (1 : Int)))))
      (
      huff_count.j2 K c_368)

def huff_count.m (K : Nat) (lengths339 : List Int) : Res ((List Int) × Bool) :=
  cond (decide ((lengths339.length : Int) > (320 : Int)))
    (
    .ok ((List.replicate 16 (0 : Int)), false))
    (
    huff_count.l1 K lengths339 K (List.replicate 16 (0 : Int)) (0 : Int))

def huff_Check.j2 (K : Nat) (x400 : (List Int)) (sum418 : Int) : Res Int :=
  cond (((sum418 == (0 : Int)) || (sum418 == (32768 : Int))) || (x400 == ([0, (1 : Int), 0, 0, 0, 0, 0, 0, 0, 0, 0, 0, 0, 0, 0, 0] : List Int)))
    (
    .ok (0 : Int))
    (
    .ok (3 : Int))

def huff_Check.l1 (K : Nat) (x400 : (List Int)) : Nat → Int → Int → Res Int
  | 0, _, _ => .fail
  | k + 1, sum409, v410 =>
    cond (decide (v410 < (16 : Int)))
      (
      chk (inb v410 16) <|
      lt ((rd x400 v410)) fun (k_414 : Int) =>
      chk (decide (0 ≤ v410)) <|
      lt ((w64 (sum409 + (w64 (k_414 * (ishr .i64 (32768 : Int) v410)))))) fun (sum416 : Int) =>
      huff_Check.l1 K x400 k sum416 (w64 (v410 + (1 : Int))))
      (
      huff_Check.j2 K x400 sum409)

def huff_Check.m (K : Nat) (lengths334 : List Int) : Res Int :=
  (huff_count.m K lengths334).bind fun (x400, x401) =>
  cond (!x401)
    (
    .ok (1 : Int))
    (
    huff_Check.l1 K x400 K (0 : Int) (0 : Int))

def huff_New.l2 (K : Nat) (g1 : (List Int) → Int → Res ((Option T_huff_Table) × Int)) (lengths329 : List Int) (n_506 : Int) : Nat → (List Int) → Int → Res ((Option T_huff_Table) × Int)
  | 0, _, _ => .fail
  | k + 1, symbols538, v543 =>
    cond (decide (v543 < (lengths329.length : Int)))
      (
      chk (inb v543 lengths329.length) <|
      lt ((rd lengths329 v543)) fun (k_548 : Int) =>
      cond (k_548 == n_506)
        (
        chk (room (symbols538.length + ([v543] : List Int).length) 8) <|
        lt (symbols538 ++ ([v543] : List Int)) fun (zs559 : (List Int)) =>
        huff_New.l2 K g1 lengths329 n_506 k zs559 (w64 (v543 + (1 : Int))))
        (
        huff_New.l2 K g1 lengths329 n_506 k symbols538 (w64 (v543 + (1 : Int)))))
      (
      lt ((w64 (n_506 + (1 : Int)))) fun (n_546 : Int) =>
      g1 symbols538 n_546)

def huff_New.l1 (K : Nat) (lengths329 : List Int) (x429 : (List Int)) : Nat → (List Int) → Int → Res ((Option T_huff_Table) × Int)
  | 0, _, _ => .fail
  | k + 1, symbols501, n_506 =>
    cond (decide (n_506 ≤ (15 : Int)))
      (
      huff_New.l2 K (huff_New.l1 K lengths329 x429 k) lengths329 n_506 K symbols501 (0 : Int))
      (
      .ok ((some (T_huff_Table.mk x429 symbols501)), (0 : Int)))

def huff_New.m (K : Nat) (lengths329 : List Int) : Res ((Option T_huff_Table) × Int) :=
  (huff_Check.m K lengths329).bind fun x422 =>
  cond (x422 != (0 : Int))
    (
    .ok (none, x422))
    (
    (huff_count.m K lengths329).bind fun (x429, x430) =>
    huff_New.l1 K lengths329 x429 K ([] : List Int) (1 : Int))

def inflate_table.m (K : Nat) (l_324 : List Int) : Res (Option T_huff_Table) :=
  (huff_New.m K l_324).bind fun (x580, x582) =>
  (inflate_refuse.m K (x582 != (0 : Int)) (3 : Int)).bind fun _ =>
  .ok x580

def inflate_fixed.j2 (K : Nat) (g1 : (List Int) → Int → Res ((Option T_huff_Table) × (Option T_huff_Table))) (v261 : Int) (l_274 : (List Int)) : Res ((Option T_huff_Table) × (Option T_huff_Table)) :=
  cond ((decide (v261 ≥ (256 : Int))) && (decide (v261 < (280 : Int))))
    (
    lt (l_274.set (Int.toNat v261) (7 : Int)) fun (zs282 : (List Int)) =>
    g1 zs282 (w64 (v261 + (1 : Int))))
    (
    g1 l_274 (w64 (v261 + (1 : Int))))

def inflate_fixed.j5 (K : Nat) (l_285 : (List Int)) (d319 : (List Int)) : Res ((Option T_huff_Table) × (Option T_huff_Table)) :=
  (inflate_table.m K l_285).bind fun x589 =>
  (inflate_table.m K d319).bind fun x593 =>
  .ok (x589, x593)

def inflate_fixed.l4 (K : Nat) (l_285 : (List Int)) : Nat → (List Int) → Int → Res ((Option T_huff_Table) × (Option T_huff_Table))
  | 0, _, _ => .fail
  | k + 1, d306, v310 =>
    cond (decide (v310 < (32 : Int)))
      (
      chk (inb v310 32) <|
      lt (d306.set (Int.toNat v310) (5 : Int)) fun (zs316 : (List Int)) =>
      inflate_fixed.l4 K l_285 k zs316 (w64 (v310 + (1 : Int))))
      (
      inflate_fixed.j5 K l_285 d306)

def inflate_fixed.j3 (K : Nat)  (l_285 : (List Int)) : Res ((Option T_huff_Table) × (Option T_huff_Table)) :=
  inflate_fixed.l4 K l_285 K (List.replicate 32 (0 : Int)) (0 : Int)

def inflate_fixed.l1 (K : Nat)  : Nat → (List Int) → Int → Res ((Option T_huff_Table) × (Option T_huff_Table))
  | 0, _, _ => .fail
  | k + 1, l_257, v261 =>
    cond (decide (v261 < (288 : Int)))
      (
      chk (inb v261 288) <|
      lt (l_257.set (Int.toNat v261) (8 : Int)) fun (zs267 : (List Int)) =>
      cond ((decide (v261 ≥ (144 : Int))) && (decide (v261 < (256 : Int))))
        (
        lt (zs267.set (Int.toNat v261) (9 : Int)) fun (zs272 : (List Int)) =>
        inflate_fixed.j2 K (inflate_fixed.l1 K k) v261 zs272)
        (
        inflate_fixed.j2 K (inflate_fixed.l1 K k) v261 zs267))
      (
      inflate_fixed.j3 K l_257)

def inflate_fixed.m (K : Nat) : Res ((Option T_huff_Table) × (Option T_huff_Table)) :=
  inflate_fixed.l1 K K (List.replicate 288 (0 : Int)) (0 : Int)

def huff_Table_Next.j2 (K : Nat) (r693 : T_bits_Reader) (at_761 : Int) : Res (Int × Int × Int) :=
  .ok ((0 : Int), (3 : Int), r693.place_.at_)

def huff_Table_Next.l1 (K : Nat) (t684 : T_huff_Table) (r693 : T_bits_Reader) : Nat → Int → Int → Int → Int → Int → Res (Int × Int × Int)
  | 0, _, _, _, _, _ => .fail
  | k + 1, at_733, code736, first737, passed738, n_739 =>
    cond (decide (passed738 < (t684.symbols_.length : Int)))
      (
      (bits_Reader_Bits.m K (T_bits_Reader.mk (T_bits_place.mk at_733) r693.text_) (1 : Int)).bind fun (x742, x743, at_744) =>
      cond (x743 != (0 : Int))
        (
        .ok ((0 : Int), x743, r693.place_.at_))
        (
        lt ((ior .i64 (ishl .i64 code736 (1 : Int)) (wr .i64 x742))) fun (code750 : Int) =>
        lt ((ishl .i64 first737 (1 : Int))) fun (first751 : Int) =>
        chk (inb n_739 16) <|
        lt ((rd t684.counts_ n_739)) fun (k_753 : Int) =>
        cond (decide ((w64 (code750 - first751)) < k_753))
          (
          chk (inb (w64 ((w64 (passed738 + code750)) - first751)) t684.symbols_.length) <|
          lt ((rd t684.symbols_ (w64 ((w64 (passed738 + code750)) - first751)))) fun (v756 : Int) =>
          .ok (v756, (0 : Int), at_744))
          (
          lt ((w64 (first751 + k_753))) fun (first757 : Int) =>
          lt ((w64 (passed738 + k_753))) fun (passed758 : Int) =>
          lt ((w64 (n_739 + (1 : Int)))) fun (n_759 : Int) =>
          huff_Table_Next.l1 K t684 r693 k at_744 code750 first757 passed758 n_759)))
      (
      huff_Table_Next.j2 K r693 at_733)

def huff_Table_Next.m (K : Nat) (t684 : T_huff_Table) (r693 : T_bits_Reader) : Res (Int × Int × Int) :=
  huff_Table_Next.l1 K t684 r693 K r693.place_.at_ (0 : Int) (0 : Int) (0 : Int) (1 : Int)

def inflate_reader_symbol.m (K : Nat) (r664 : T_inflate_reader) (t675 : T_huff_Table) : Res (Int × Int) :=
  (huff_Table_Next.m K t675 r664.Reader_).bind fun (x772, x773, at_774) =>
  (inflate_must.m K x773).bind fun _ =>
  .ok (x772, at_774)

def inflate_reader_far.m (K : Nat) (r802 : T_inflate_reader) (x813 : T_inflate_run) : Res (Int × Int) :=
  (inflate_reader_number.m K r802 x813.bits_).bind fun (x817, at_818) =>
  lt ((w64 (x813.from_ + x817))) fun (v821 : Int) =>
  .ok (v821, at_818)

def inflate_reader_symbols.l2 (K : Nat) (g1 : Int → (List Int) → Res (Int × (List Int))) (x932 : Int) (x941 : Int) (at_942 : Int) : Nat → (List Int) → Int → Res (Int × (List Int))
  | 0, _, _ => .fail
  | k + 1, out972, v977 =>
    cond (decide (v977 < x932))
      (
      chk (inb (w64 ((out972.length : Int) - x941)) out972.length) <|
      chk (room (out972.length + ([(rd out972 (w64 ((out972.length : Int) - x941)))] : List Int).length) 1) <|
      lt (out972 ++ ([(rd out972 (w64 ((out972.length : Int) - x941)))] : List Int)) fun (zs991 : (List Int)) =>
      inflate_reader_symbols.l2 K g1 x932 x941 at_942 k zs991 (w64 (v977 + (1 : Int))))
      (
      g1 at_942 out972)

def inflate_reader_symbols.l1 (K : Nat) (r634 : T_inflate_reader) (literals645 : T_huff_Table) (back654 : T_huff_Table) : Nat → Int → (List Int) → Res (Int × (List Int))
  | 0, _, _ => .fail
  | k + 1, at_900, out905 =>
    (inflate_reader_symbol.m K (T_inflate_reader.mk (T_bits_Reader.mk (T_bits_place.mk at_900) r634.Reader_.text_) out905 r634.limit_) literals645).bind fun (x911, at_912) =>
    lt ((x911 == (256 : Int))) fun (v915 : Bool) =>
    cond v915
      (
      .ok (at_912, out905))
      (
      lt ((decide (x911 < (256 : Int)))) fun (v917 : Bool) =>
      cond v917
        (
        (inflate_refuse.m K ((out905.length : Int) == r634.limit_) (11 : Int)).bind fun _ =>
        chk (room (out905.length + ([(wr .u8 x911)] : List Int).length) 1) <|
        lt (out905 ++ ([(wr .u8 x911)] : List Int)) fun (zs928 : (List Int)) =>
        inflate_reader_symbols.l1 K r634 literals645 back654 k at_912 zs928)
        (
        (inflate_refuse.m K (decide (x911 ≥ (286 : Int))) (3 : Int)).bind fun _ =>
        chk (inb (w64 (x911 - (257 : Int))) 29) <|
        (inflate_reader_far.m K (T_inflate_reader.mk (T_bits_Reader.mk (T_bits_place.mk at_912) r634.Reader_.text_) out905 r634.limit_) (T_inflate_run.mk ((rd tab_inflate_lengths (w64 (x911 - (257 : Int)))).from_) ((rd tab_inflate_lengths (w64 (x911 - (257 : Int)))).bits_))).bind fun (x932, at_933) =>
        (inflate_reader_symbol.m K (T_inflate_reader.mk (T_bits_Reader.mk (T_bits_place.mk at_933) r634.Reader_.text_) out905 r634.limit_) back654).bind fun (x936, at_937) =>
        (inflate_refuse.m K (decide (x936 ≥ (30 : Int))) (3 : Int)).bind fun _ =>
        chk (inb x936 30) <|
        (inflate_reader_far.m K (T_inflate_reader.mk (T_bits_Reader.mk (T_bits_place.mk at_937) r634.Reader_.text_) out905 r634.limit_) (T_inflate_run.mk ((rd tab_inflate_distances x936).from_) ((rd tab_inflate_distances x936).bits_))).bind fun (x941, at_942) =>
        (inflate_refuse.m K (decide (x941 > (out905.length : Int))) (3 : Int)).bind fun _ =>
        (inflate_refuse.m K (decide ((w64 ((out905.length : Int) + x932)) > r634.limit_)) (11 : Int)).bind fun _ =>
        inflate_reader_symbols.l2 K (inflate_reader_symbols.l1 K r634 literals645 back654 k) x932 x941 at_942 K out905 (0 : Int)))

def inflate_reader_symbols.m (K : Nat) (r634 : T_inflate_reader) (literals645 : T_huff_Table) (back654 : T_huff_Table) : Res (Int × (List Int)) :=
  inflate_reader_symbols.l1 K r634 literals645 back654 K r634.Reader_.place_.at_ r634.out_

def inflate_reader_row.l3 (K : Nat) (g1 : Int → (List Int) → Res ((List Int) × Int)) (at_1265 : Int) (value1268 : Int) (times1269 : Int) : Nat → (List Int) → Int → Res ((List Int) × Int)
  | 0, _, _ => .fail
  | k + 1, l_1292, v1295 =>
    cond (decide (v1295 < times1269))
      (
      chk (room (l_1292.length + ([value1268] : List Int).length) 8) <|
      lt (l_1292 ++ ([value1268] : List Int)) fun (zs1307 : (List Int)) =>
      inflate_reader_row.l3 K g1 at_1265 value1268 times1269 k zs1307 (w64 (v1295 + (1 : Int))))
      (
      g1 at_1265 l_1292)

def inflate_reader_row.j2 (K : Nat) (g1 : Int → (List Int) → Res ((List Int) × Int)) (n_1127 : Int) (l_1230 : (List Int)) (at_1265 : Int) (value1268 : Int) (times1269 : Int) : Res ((List Int) × Int) :=
  (inflate_refuse.m K (decide (times1269 > (w64 (n_1127 - (l_1230.length : Int))))) (3 : Int)).bind fun _ =>
  inflate_reader_row.l3 K (g1) at_1265 value1268 times1269 K l_1230 (0 : Int)

def inflate_reader_row.l1 (K : Nat) (r1116 : T_inflate_reader) (n_1127 : Int) (t1128 : T_huff_Table) : Nat → Int → (List Int) → Res ((List Int) × Int)
  | 0, _, _ => .fail
  | k + 1, at_1225, l_1230 =>
    cond (decide ((l_1230.length : Int) < n_1127))
      (
      (inflate_reader_symbol.m K (T_inflate_reader.mk (T_bits_Reader.mk (T_bits_place.mk at_1225) r1116.Reader_.text_) r1116.out_ r1116.limit_) t1128).bind fun (x1235, at_1236) =>
      lt ((decide (x1235 < (16 : Int)))) fun (v1239 : Bool) =>
      cond v1239
        (
        inflate_reader_row.j2 K (inflate_reader_row.l1 K r1116 n_1127 t1128 k) n_1127 l_1230 at_1236 x1235 (1 : Int))
        (
        lt ((x1235 == (16 : Int))) fun (v1241 : Bool) =>
        cond v1241
          (
          (inflate_refuse.m K ((l_1230.length : Int) == (0 : Int)) (3 : Int)).bind fun _ =>
          chk (inb (w64 ((l_1230.length : Int) - (1 : Int))) l_1230.length) <|
          (inflate_reader_number.m K (T_inflate_reader.mk (T_bits_Reader.mk (T_bits_place.mk at_1236) r1116.Reader_.text_) r1116.out_ r1116.limit_) (2 : Int)).bind fun (x1245, at_1246) =>
          lt ((rd l_1230 (w64 ((l_1230.length : Int) - (1 : Int))))) fun (value1249 : Int) =>
          lt ((w64 ((3 : Int) + x1245))) fun (times1251 : Int) =>
          inflate_reader_row.j2 K (inflate_reader_row.l1 K r1116 n_1127 t1128 k) n_1127 l_1230 at_1246 value1249 times1251)
          (
          lt ((x1235 == (17 : Int))) fun (v1253 : Bool) =>
          cond v1253
            (
            (inflate_reader_number.m K (T_inflate_reader.mk (T_bits_Reader.mk (T_bits_place.mk at_1236) r1116.Reader_.text_) r1116.out_ r1116.limit_) (3 : Int)).bind fun (x1255, at_1256) =>
            lt ((w64 ((3 : Int) + x1255))) fun (times1259 : Int) =>
            inflate_reader_row.j2 K (inflate_reader_row.l1 K r1116 n_1127 t1128 k) n_1127 l_1230 at_1256 (0 : Int) times1259)
            (
            (inflate_reader_number.m K (T_inflate_reader.mk (T_bits_Reader.mk (T_bits_place.mk at_1236) r1116.Reader_.text_) r1116.out_ r1116.limit_) (7 : Int)).bind fun (x1260, at_1261) =>
            lt ((w64 ((11 : Int) + x1260))) fun (times1264 : Int) =>
            inflate_reader_row.j2 K (inflate_reader_row.l1 K r1116 n_1127 t1128 k) n_1127 l_1230 at_1261 (0 : Int) times1264))))
      (
      .ok (l_1230, at_1225))

def inflate_reader_row.m (K : Nat) (r1116 : T_inflate_reader) (n_1127 : Int) (t1128 : T_huff_Table) : Res ((List Int) × Int) :=
  inflate_reader_row.l1 K r1116 n_1127 t1128 K r1116.Reader_.place_.at_ ([] : List Int)

def inflate_reader_dynamic.j2 (K : Nat) (r1018 : T_inflate_reader) (n_1037 : Int) (d1038 : Int) (at_1093 : Int) (l_1096 : (List Int)) : Res ((Option T_huff_Table) × (Option T_huff_Table) × Int) :=
  (inflate_refuse.m K (l_1096 == ([0, 0, 0, 0, 0, 0, 0, 0, 0, 0, 0, 0, 0, 0, 0, 0, 0, 0, 0] : List Int)) (3 : Int)).bind fun _ =>
  (inflate_table.m K l_1096).bind fun x1102 =>
  unw x1102 fun x1105 =>
  (inflate_reader_row.m K (T_inflate_reader.mk (T_bits_Reader.mk (T_bits_place.mk at_1093) r1018.Reader_.text_) r1018.out_ r1018.limit_) (w64 (n_1037 + d1038)) x1105).bind fun (x1320, at_1322) =>
  chk (inb (256 : Int) x1320.length) <|
  (inflate_refuse.m K ((rd x1320 (256 : Int)) == (0 : Int)) (3 : Int)).bind fun _ =>
  chk (subok (0 : Int) n_1037 x1320.length) <|
  lt (sub x1320 (0 : Int) n_1037) fun (zs1328 : (List Int)) =>
  chk (subok n_1037 (x1320.length : Int) x1320.length) <|
  lt (sub x1320 n_1037 (x1320.length : Int)) fun (zs1335 : (List Int)) =>
  (inflate_table.m K zs1328).bind fun x1342 =>
  (inflate_table.m K zs1335).bind fun x1346 =>
  .ok (x1342, x1346, at_1322)

def inflate_reader_dynamic.l1 (K : Nat) (r1018 : T_inflate_reader) (n_1037 : Int) (d1038 : Int) (some_1043 : Int) : Nat → Int → (List Int) → Int → Res ((Option T_huff_Table) × (Option T_huff_Table) × Int)
  | 0, _, _, _ => .fail
  | k + 1, at_1070, l_1073, v1077 =>
    cond (decide (v1077 < (19 : Int)))
      (
      chk (inb v1077 19) <|
      lt ((rd tab_inflate_order v1077)) fun (s1081 : Int) =>
      cond (decide (v1077 < some_1043))
        (
        (inflate_reader_number.m K (T_inflate_reader.mk (T_bits_Reader.mk (T_bits_place.mk at_1070) r1018.Reader_.text_) r1018.out_ r1018.limit_) (3 : Int)).bind fun (x1083, at_1084) =>
        chk (inb s1081 19) <|
        lt (l_1073.set (Int.toNat s1081) x1083) fun (zs1090 : (List Int)) =>
        inflate_reader_dynamic.l1 K r1018 n_1037 d1038 some_1043 k at_1084 zs1090 (w64 (v1077 + (1 : Int))))
        (
        inflate_reader_dynamic.l1 K r1018 n_1037 d1038 some_1043 k at_1070 l_1073 (w64 (v1077 + (1 : Int)))))
      (
      inflate_reader_dynamic.j2 K r1018 n_1037 d1038 at_1070 l_1073)

def inflate_reader_dynamic.m (K : Nat) (r1018 : T_inflate_reader) : Res ((Option T_huff_Table) × (Option T_huff_Table) × Int) :=
  (inflate_reader_number.m K r1018 (5 : Int)).bind fun (x1029, at_1030) =>
  (inflate_reader_number.m K (T_inflate_reader.mk (T_bits_Reader.mk (T_bits_place.mk at_1030) r1018.Reader_.text_) r1018.out_ r1018.limit_) (5 : Int)).bind fun (x1033, at_1034) =>
  lt ((w64 (x1029 + (257 : Int)))) fun (n_1037 : Int) =>
  lt ((w64 (x1033 + (1 : Int)))) fun (d1038 : Int) =>
  (inflate_reader_number.m K (T_inflate_reader.mk (T_bits_Reader.mk (T_bits_place.mk at_1034) r1018.Reader_.text_) r1018.out_ r1018.limit_) (4 : Int)).bind fun (x1039, at_1040) =>
  lt ((w64 (x1039 + (4 : Int)))) fun (some_1043 : Int) =>
  (inflate_refuse.m K ((decide (n_1037 > (286 : Int))) || (decide (d1038 > (30 : Int)))) (3 : Int)).bind fun _ =>
  inflate_reader_dynamic.l1 K r1018 n_1037 d1038 some_1043 K at_1040 (List.replicate 19 (0 : Int)) (0 : Int)

def inflate_reader_block.m (K : Nat) (r51 : T_inflate_reader) : Res (Bool × Int × (List Int)) :=
  (inflate_reader_number.m K r51 (1 : Int)).bind fun (x119, at_120) =>
  lt ((x119 == (1 : Int))) fun (last123 : Bool) =>
  (inflate_reader_number.m K (T_inflate_reader.mk (T_bits_Reader.mk (T_bits_place.mk at_120) r51.Reader_.text_) r51.out_ r51.limit_) (2 : Int)).bind fun (x124, at_125) =>
  lt ((x124 == (0 : Int))) fun (v128 : Bool) =>
  cond v128
    (
    (inflate_reader_stored.m K (T_inflate_reader.mk (T_bits_Reader.mk (T_bits_place.mk at_125) r51.Reader_.text_) r51.out_ r51.limit_)).bind fun (at_214, out218) =>
    .ok (last123, at_214, out218))
    (
    lt ((x124 == (1 : Int))) fun (v224 : Bool) =>
    cond v224
      (
      (inflate_fixed.m K).bind fun (x605, x608) =>
      unw x605 fun x612 =>
      unw x608 fun x623 =>
      (inflate_reader_symbols.m K (T_inflate_reader.mk (T_bits_Reader.mk (T_bits_place.mk at_125) r51.Reader_.text_) r51.out_ r51.limit_) x612 x623).bind fun (at_1006, out1010) =>
      .ok (last123, at_1006, out1010))
      (
      lt ((x124 == (2 : Int))) fun (v1016 : Bool) =>
      cond v1016
        (
        (inflate_reader_dynamic.m K (T_inflate_reader.mk (T_bits_Reader.mk (T_bits_place.mk at_125) r51.Reader_.text_) r51.out_ r51.limit_)).bind fun (x1361, x1364, at_1366) =>
        unw x1361 fun x1371 =>
        unw x1364 fun x1382 =>
        (inflate_reader_symbols.m K (T_inflate_reader.mk (T_bits_Reader.mk (T_bits_place.mk at_1366) r51.Reader_.text_) r51.out_ r51.limit_) x1371 x1382).bind fun (at_1393, out1397) =>
        .ok (last123, at_1393, out1397))
        (
        (inflate_refuse.m K true (3 : Int)).bind fun _ =>
        .ok (last123, at_125, r51.out_))))

def bits_Reader_At.m (K : Nat) (r1471 : T_bits_Reader) : Res Unit :=
  .ok ()

def inflate_Inflate.h1 (K : Nat)  (v27 : Value) : Res ((List UInt8) × Int × Int) :=
  unw (asE ty_inflate_failed .i64 v27) fun e25 =>
  .ok (([] : List UInt8), (0 : Int), e25)

def inflate_Inflate.j4 (K : Nat) (s4 : List UInt8) (at_1460 : Int) (out1465 : (List Int)) : Res ((List UInt8) × Int × Int) :=
  (bits_Reader_At.m K (T_bits_Reader.mk (T_bits_place.mk at_1460) s4)).bind fun _ =>
  .ok ((out1465.map tob), (iquo .i64 (w64 (at_1460 + (7 : Int))) (8 : Int)), (0 : Int))

def inflate_Inflate.l3 (K : Nat) (s4 : List UInt8) (limit5 : Int) : Nat → Int → (List Int) → Res ((List UInt8) × Int × Int)
  | 0, _, _ => .fail
  | k + 1, at_1436, out1441 =>
    (inflate_reader_block.m K (T_inflate_reader.mk (T_bits_Reader.mk (T_bits_place.mk at_1436) s4) out1441 limit5)).bind fun (x1447, at_1448, out1452) =>
    cond (!x1447)
      (
      inflate_Inflate.l3 K s4 limit5 k at_1448 out1452)
      (
      inflate_Inflate.j4 K s4 at_1448 out1452)

def inflate_Inflate.j2 (K : Nat) (s4 : List UInt8) (limit5 : Int) : Res ((List UInt8) × Int × Int) :=
  (bits_New.m K s4).bind fun _ =>
  inflate_Inflate.l3 K s4 limit5 K (0 : Int) ([] : List Int)

def inflate_Inflate.m (K : Nat) (s4 : List UInt8) (limit5 : Int) : Res ((List UInt8) × Int × Int) :=
  cond ((decide (limit5 < (0 : Int))) || (decide (limit5 > (1073741824 : Int))))
    (
    .ok (([] : List UInt8), (0 : Int), (1 : Int)))
    (
    (inflate_Inflate.j2 K s4 limit5).catch (inflate_Inflate.h1 K))

def mortiselaw07_live.m (K : Nat) : Res Bool :=
  (inflate_Inflate.m K ([3, 0] : List UInt8) (10 : Int)).bind fun (x1485, x1486, x1487) =>
  (inflate_Inflate.m K ([1, 1, 0, 254, 255, 97, 122] : List UInt8) (10 : Int)).bind fun (x1488, x1489, x1490) =>
  (inflate_Inflate.m K ([7] : List UInt8) (10 : Int)).bind fun (x1491, x1492, x1493) =>
  (inflate_Inflate.m K ([1, 1, 0, 254, 255, 97] : List UInt8) (0 : Int)).bind fun (x1494, x1495, x1496) =>
  lt (((((((((x1485 == ([] : List UInt8)) && (x1486 == (2 : Int))) && (x1487 == (0 : Int))) && (x1488 == ([97] : List UInt8))) && (x1489 == (6 : Int))) && (x1490 == (0 : Int))) && (x1493 == (3 : Int))) && (x1496 == (11 : Int)))) fun (v1497 : Bool) =>
  .ok v1497

def mortiseref05_Reader_Bits.j2 (K : Nat) (r1539 : T_mortiseref05_Reader) (n_1543 : Int) (v1558 : Int) : Res (Int × Int × Int) :=
  .ok (v1558, (0 : Int), (w64 (r1539.At_ + n_1543)))

def mortiseref05_Reader_Bits.l1 (K : Nat) (r1539 : T_mortiseref05_Reader) (n_1543 : Int) : Nat → Int → Int → Res (Int × Int × Int)
  | 0, _, _ => .fail
  | k + 1, v1546, i1547 =>
    cond (decide (i1547 < n_1543))
      (
      lt ((w64 (r1539.At_ + i1547))) fun (k_1550 : Int) =>
      chk (inb (iquo .i64 k_1550 (8 : Int)) r1539.S_.length) <|
      chk (decide (0 ≤ (wr .u64 (irem k_1550 (8 : Int))))) <|
      lt ((irem (ishr .u32 (wr .u32 ((rd r1539.S_ (iquo .i64 k_1550 (8 : Int))).toNat : Int)) (wr .u64 (irem k_1550 (8 : Int)))) (2 : Int))) fun (b_1553 : Int) =>
      chk (decide (0 ≤ (wr .u64 i1547))) <|
      lt ((wr .u32 (v1546 + (ishl .u32 b_1553 (wr .u64 i1547))))) fun (v1555 : Int) =>
      lt ((w64 (i1547 + (1 : Int)))) fun (i1556 : Int) =>
      mortiseref05_Reader_Bits.l1 K r1539 n_1543 k v1555 i1556)
      (
      mortiseref05_Reader_Bits.j2 K r1539 n_1543 v1546)

def mortiseref05_Reader_Bits.m (K : Nat) (r1539 : T_mortiseref05_Reader) (n_1543 : Int) : Res (Int × Int × Int) :=
  cond ((decide (n_1543 < (0 : Int))) || (decide (n_1543 > (32 : Int))))
    (
    .ok ((0 : Int), (1 : Int), r1539.At_))
    (
    cond (decide (n_1543 > (w64 ((w64 ((8 : Int) * (r1539.S_.length : Int))) - r1539.At_))))
      (
      .ok ((0 : Int), (2 : Int), r1539.At_))
      (
      mortiseref05_Reader_Bits.l1 K r1539 n_1543 K (0 : Int) (0 : Int)))

def mortiseref07_state_bits.m (K : Nat) (s1526 : T_mortiseref07_state) (n_1537 : Int) (from_1538 : Int) : Res (Int × Int × Int) :=
  (mortiseref05_Reader_Bits.m K s1526.r_ n_1537).bind fun (x1567, x1568, at_1569) =>
  lt ((w64 (from_1538 + (wr .i64 x1567)))) fun (v1572 : Int) =>
  .ok (v1572, x1568, at_1569)

def mortiseref05_Reader_Align.l1 (K : Nat)  : Nat → Int → Res Int
  | 0, _ => .fail
  | k + 1, at_1620 =>
    cond ((irem at_1620 (8 : Int)) != (0 : Int))
      (
      mortiseref05_Reader_Align.l1 K k (w64 (at_1620 + (1 : Int))))
      (
      .ok at_1620)

def mortiseref05_Reader_Align.m (K : Nat) (r1609 : T_mortiseref05_Reader) : Res Int :=
  mortiseref05_Reader_Align.l1 K K r1609.At_

def mortiseref05_Reader_Bytes.m (K : Nat) (r1603 : T_mortiseref05_Reader) (n_1607 : Int) : Res ((List UInt8) × Int × Int) :=
  cond (decide (n_1607 < (0 : Int)))
    (
    .ok (([] : List UInt8), (1 : Int), r1603.At_))
    (
    (mortiseref05_Reader_Align.m K r1603).bind fun at_1631 =>
    lt ((iquo .i64 at_1631 (8 : Int))) fun (at_1634 : Int) =>
    cond (decide (n_1607 > (w64 ((r1603.S_.length : Int) - at_1634))))
      (
      .ok (([] : List UInt8), (2 : Int), at_1631))
      (
      chk (subok at_1634 (w64 (at_1634 + n_1607)) r1603.S_.length) <|
      lt ((sub r1603.S_ at_1634 (w64 (at_1634 + n_1607)))) fun (v1639 : List UInt8) =>
      .ok (v1639, (0 : Int), (w64 (at_1631 + (w64 ((8 : Int) * n_1607)))))))

def mortiseref07_state_stored.m (K : Nat) (s1592 : T_mortiseref07_state) : Res (Int × Int × (List Int)) :=
  (mortiseref05_Reader_Bytes.m K s1592.r_ (4 : Int)).bind fun (x1645, x1646, at_1647) =>
  cond (x1646 != (0 : Int))
    (
    .ok (x1646, at_1647, s1592.out_))
    (
    chk (inb (0 : Int) x1645.length) <|
    chk (inb (1 : Int) x1645.length) <|
    lt ((w64 ((wr .i64 ((rd x1645 (0 : Int)).toNat : Int)) + (w64 ((256 : Int) * (wr .i64 ((rd x1645 (1 : Int)).toNat : Int))))))) fun (n_1655 : Int) =>
    chk (inb (2 : Int) x1645.length) <|
    chk (inb (3 : Int) x1645.length) <|
    cond ((w64 ((wr .i64 ((rd x1645 (2 : Int)).toNat : Int)) + (w64 ((256 : Int) * (wr .i64 ((rd x1645 (3 : Int)).toNat : Int)))))) != (w64 ((65535 : Int) - n_1655)))
      (
      .ok ((3 : Int), at_1647, s1592.out_))
      (
      (mortiseref05_Reader_Bytes.m K (T_mortiseref05_Reader.mk s1592.r_.S_ at_1647) n_1655).bind fun (x1662, x1663, at_1664) =>
      cond (x1663 != (0 : Int))
        (
        .ok (x1663, at_1664, s1592.out_))
        (
        cond (decide (n_1655 > (w64 (s1592.limit_ - (s1592.out_.length : Int)))))
          (
          .ok ((11 : Int), at_1664, s1592.out_))
          (
          chk (room (s1592.out_.length + x1662.length) 1) <|
          lt (s1592.out_ ++ x1662.map ofb) fun (zs1674 : (List Int)) =>
          .ok ((0 : Int), at_1664, zs1674)))))

def mortiseref07_Fixed.l3 (K : Nat) (l_1770 : (List Int)) : Nat → (List Int) → Int → Res ((List Int) × (List Int))
  | 0, _, _ => .fail
  | k + 1, d1793, i1796 =>
    cond (decide (i1796 < (32 : Int)))
      (
      chk (inb i1796 d1793.length) <|
      lt (d1793.set (Int.toNat i1796) (5 : Int)) fun (zs1802 : (List Int)) =>
      lt ((w64 (i1796 + (1 : Int)))) fun (i1804 : Int) =>
      mortiseref07_Fixed.l3 K l_1770 k zs1802 i1804)
      (
      .ok (l_1770, d1793))

def mortiseref07_Fixed.j2 (K : Nat)  (l_1770 : (List Int)) : Res ((List Int) × (List Int)) :=
  chk (decide (0 ≤ (32 : Int)) && room (Int.toNat (32 : Int)) 8) <|
  lt (List.replicate (Int.toNat (32 : Int)) (0 : Int)) fun (zs1779 : (List Int)) =>
  mortiseref07_Fixed.l3 K l_1770 K zs1779 (0 : Int)

def mortiseref07_Fixed.l1 (K : Nat)  : Nat → (List Int) → Int → Res ((List Int) × (List Int))
  | 0, _, _ => .fail
  | k + 1, l_1741, i1744 =>
    cond (decide (i1744 < (288 : Int)))
      (
      lt (((decide (i1744 < (144 : Int))) || (decide (i1744 > (279 : Int))))) fun (v1747 : Bool) =>
      cond v1747
        (
        chk (inb i1744 l_1741.length) <|
        lt (l_1741.set (Int.toNat i1744) (8 : Int)) fun (zs1752 : (List Int)) =>
        lt ((w64 (i1744 + (1 : Int)))) fun (i1754 : Int) =>
        mortiseref07_Fixed.l1 K k zs1752 i1754)
        (
        lt ((decide (i1744 < (256 : Int)))) fun (v1755 : Bool) =>
        cond v1755
          (
          chk (inb i1744 l_1741.length) <|
          lt (l_1741.set (Int.toNat i1744) (9 : Int)) fun (zs1760 : (List Int)) =>
          lt ((w64 (i1744 + (1 : Int)))) fun (i1762 : Int) =>
          mortiseref07_Fixed.l1 K k zs1760 i1762)
          (
          chk (inb i1744 l_1741.length) <|
          lt (l_1741.set (Int.toNat i1744) (7 : Int)) fun (zs1766 : (List Int)) =>
          lt ((w64 (i1744 + (1 : Int)))) fun (i1768 : Int) =>
          mortiseref07_Fixed.l1 K k zs1766 i1768)))
      (
      mortiseref07_Fixed.j2 K l_1741)

def mortiseref07_Fixed.m (K : Nat) : Res ((List Int) × (List Int)) :=
  chk (decide (0 ≤ (288 : Int)) && room (Int.toNat (288 : Int)) 8) <|
  lt (List.replicate (Int.toNat (288 : Int)) (0 : Int)) fun (zs1711 : (List Int)) =>
  mortiseref07_Fixed.l1 K K zs1711 (0 : Int)

def mortiseref06_Check.j4 (K : Nat) (sum1867 : Int) (v1875 : Bool) : Res Int :=
  cond (v1875 || (sum1867 == (32768 : Int)))
    (
    .ok (0 : Int))
    (
    .ok (3 : Int))

def mortiseref06_Check.j3 (K : Nat) (sum1867 : Int) (v1873 : Bool) : Res Int :=
  mortiseref06_Check.j4 K sum1867 v1873

def mortiseref06_Check.j2 (K : Nat)  (sum1867 : Int) (n_1868 : Int) (last1869 : Int) : Res Int :=
  cond (n_1868 == (0 : Int))
    (
    mortiseref06_Check.j4 K sum1867 true)
    (
    cond (n_1868 == (1 : Int))
      (
      mortiseref06_Check.j3 K sum1867 (last1869 == (1 : Int)))
      (
      mortiseref06_Check.j3 K sum1867 false))

def mortiseref06_Check.l1 (K : Nat) (l_1845 : List Int) : Nat → Int → Int → Int → Int → Res Int
  | 0, _, _, _, _ => .fail
  | k + 1, sum1851, n_1852, last1853, i1854 =>
    cond (decide (i1854 < (l_1845.length : Int)))
      (
      chk (inb i1854 l_1845.length) <|
      cond ((decide ((rd l_1845 i1854) < (0 : Int))) || (decide ((rd l_1845 i1854) > (15 : Int))))
        (
        .ok (1 : Int))
        (
        cond (decide ((rd l_1845 i1854) > (0 : Int)))
          (
          chk (decide (0 ≤ (wr .u64 (w64 ((15 : Int) - (rd l_1845 i1854)))))) <|
          lt ((w64 (sum1851 + (ishl .i64 (1 : Int) (wr .u64 (w64 ((15 : Int) - (rd l_1845 i1854)))))))) fun (sum1861 : Int) =>
          lt ((w64 (n_1852 + (1 : Int)))) fun (n_1862 : Int) =>
          lt ((rd l_1845 i1854)) fun (last1863 : Int) =>
          lt ((w64 (i1854 + (1 : Int)))) fun (i1864 : Int) =>
          mortiseref06_Check.l1 K l_1845 k sum1861 n_1862 last1863 i1864)
          (
          lt ((w64 (i1854 + (1 : Int)))) fun (i1865 : Int) =>
          mortiseref06_Check.l1 K l_1845 k sum1851 n_1852 last1853 i1865)))
      (
      mortiseref06_Check.j2 K sum1851 n_1852 last1853)

def mortiseref06_Check.m (K : Nat) (l_1845 : List Int) : Res Int :=
  cond (decide ((l_1845.length : Int) > (320 : Int)))
    (
    .ok (1 : Int))
    (
    mortiseref06_Check.l1 K l_1845 K (0 : Int) (0 : Int) (0 : Int) (0 : Int))

def mortiseref06_Codes.l2 (K : Nat) (g1 : (List Int) → Int → Int → Res ((List Int) × Int)) (l_1838 : List Int) (length1942 : Int) : Nat → (List Int) → Int → Int → Res ((List Int) × Int)
  | 0, _, _, _ => .fail
  | k + 1, out1966, code1969, i1970 =>
    cond (decide (i1970 < (l_1838.length : Int)))
      (
      chk (inb i1970 l_1838.length) <|
      cond ((rd l_1838 i1970) == length1942)
        (
        chk (inb i1970 out1966.length) <|
        lt (out1966.set (Int.toNat i1970) code1969) fun (zs1979 : (List Int)) =>
        lt ((w64 (code1969 + (1 : Int)))) fun (code1981 : Int) =>
        lt ((w64 (i1970 + (1 : Int)))) fun (i1982 : Int) =>
        mortiseref06_Codes.l2 K g1 l_1838 length1942 k zs1979 code1981 i1982)
        (
        lt ((w64 (i1970 + (1 : Int)))) fun (i1983 : Int) =>
        mortiseref06_Codes.l2 K g1 l_1838 length1942 k out1966 code1969 i1983))
      (
      lt ((w64 (length1942 + (1 : Int)))) fun (length1973 : Int) =>
      g1 out1966 code1969 length1973)

def mortiseref06_Codes.l1 (K : Nat) (l_1838 : List Int) : Nat → (List Int) → Int → Int → Res ((List Int) × Int)
  | 0, _, _, _ => .fail
  | k + 1, out1938, code1941, length1942 =>
    cond (decide (length1942 ≤ (15 : Int)))
      (
      lt ((w64 (code1941 * (2 : Int)))) fun (code1945 : Int) =>
      mortiseref06_Codes.l2 K (mortiseref06_Codes.l1 K l_1838 k) l_1838 length1942 K out1938 code1945 (0 : Int))
      (
      .ok (out1938, (0 : Int)))

def mortiseref06_Codes.m (K : Nat) (l_1838 : List Int) : Res ((List Int) × Int) :=
  (mortiseref06_Check.m K l_1838).bind fun x1879 =>
  cond (x1879 != (0 : Int))
    (
    .ok (([] : List Int), x1879))
    (
    chk (decide (0 ≤ (l_1838.length : Int)) && room (Int.toNat (l_1838.length : Int)) 8) <|
    lt (List.replicate (Int.toNat (l_1838.length : Int)) (0 : Int)) fun (zs1888 : (List Int)) =>
    mortiseref06_Codes.l1 K l_1838 K zs1888 (0 : Int) (1 : Int))

def mortiseref07_coded.m (K : Nat) (l_1826 : List Int) : Res ((List Int) × Bool) :=
  (mortiseref06_Codes.m K l_1826).bind fun (x1994, x1996) =>
  lt ((x1996 == (0 : Int))) fun (v2000 : Bool) =>
  .ok (x1994, v2000)

def mortiseref06_Next.j3 (K : Nat) (g1 : Int → Int → Int → Res (Int × Int × Int)) (r2083 : T_mortiseref05_Reader) (at_2132 : Int) (v2135 : Int) (length2136 : Int) (begins2160 : Bool) : Res (Int × Int × Int) :=
  cond (!begins2160)
    (
    .ok ((0 : Int), (3 : Int), r2083.At_))
    (
    (mortiseref05_Reader_Bits.m K (T_mortiseref05_Reader.mk r2083.S_ at_2132) (1 : Int)).bind fun (x2165, x2166, at_2167) =>
    cond (x2166 != (0 : Int))
      (
      .ok ((0 : Int), x2166, r2083.At_))
      (
      lt ((w64 ((w64 ((2 : Int) * v2135)) + (wr .i64 x2165)))) fun (v2173 : Int) =>
      lt ((w64 (length2136 + (1 : Int)))) fun (length2174 : Int) =>
      g1 at_2167 v2173 length2174))

def mortiseref06_Next.l2 (K : Nat) (g1 : Int → Int → Int → Res (Int × Int × Int)) (l_2073 : List Int) (codes2078 : List Int) (r2083 : T_mortiseref05_Reader) (at_2132 : Int) (v2135 : Int) (length2136 : Int) : Nat → Bool → Int → Res (Int × Int × Int)
  | 0, _, _ => .fail
  | k + 1, begins2139, i2140 =>
    cond (decide (i2140 < (l_2073.length : Int)))
      (
      chk (inb i2140 l_2073.length) <|
      chk (imp true (((rd l_2073 i2140) == length2136) && (decide (length2136 > (0 : Int)))) (inb i2140 codes2078.length)) <|
      cond ((((rd l_2073 i2140) == length2136) && (decide (length2136 > (0 : Int)))) && ((rd codes2078 i2140) == v2135))
        (
        .ok (i2140, (0 : Int), at_2132))
        (
        cond begins2139
          (
          lt ((w64 (i2140 + (1 : Int)))) fun (i2149 : Int) =>
          mortiseref06_Next.l2 K g1 l_2073 codes2078 r2083 at_2132 v2135 length2136 k true i2149)
          (
          cond (decide ((rd l_2073 i2140) > length2136))
            (
            chk (inb i2140 codes2078.length) <|
            chk (decide (0 ≤ (wr .u64 (w64 ((rd l_2073 i2140) - length2136))))) <|
            lt (((ishr .i64 (rd codes2078 i2140) (wr .u64 (w64 ((rd l_2073 i2140) - length2136)))) == v2135)) fun (begins2155 : Bool) =>
            lt ((w64 (i2140 + (1 : Int)))) fun (i2157 : Int) =>
            mortiseref06_Next.l2 K g1 l_2073 codes2078 r2083 at_2132 v2135 length2136 k begins2155 i2157)
            (
            lt ((w64 (i2140 + (1 : Int)))) fun (i2158 : Int) =>
            mortiseref06_Next.l2 K g1 l_2073 codes2078 r2083 at_2132 v2135 length2136 k false i2158))))
      (
      mortiseref06_Next.j3 K (g1) r2083 at_2132 v2135 length2136 begins2139)

def mortiseref06_Next.j4 (K : Nat) (r2083 : T_mortiseref05_Reader) (at_2176 : Int) : Res (Int × Int × Int) :=
  .ok ((0 : Int), (3 : Int), r2083.At_)

def mortiseref06_Next.l1 (K : Nat) (l_2073 : List Int) (codes2078 : List Int) (r2083 : T_mortiseref05_Reader) : Nat → Int → Int → Int → Res (Int × Int × Int)
  | 0, _, _, _ => .fail
  | k + 1, at_2132, v2135, length2136 =>
    cond (decide (length2136 ≤ (15 : Int)))
      (
      mortiseref06_Next.l2 K (mortiseref06_Next.l1 K l_2073 codes2078 r2083 k) l_2073 codes2078 r2083 at_2132 v2135 length2136 K false (0 : Int))
      (
      mortiseref06_Next.j4 K r2083 at_2132)

def mortiseref06_Next.m (K : Nat) (l_2073 : List Int) (codes2078 : List Int) (r2083 : T_mortiseref05_Reader) : Res (Int × Int × Int) :=
  mortiseref06_Next.l1 K l_2073 codes2078 r2083 K r2083.At_ (0 : Int) (0 : Int)

def mortiseref07_Length.m (K : Nat) (symbol2233 : Int) : Res (Int × Int) :=
  cond (symbol2233 == (285 : Int))
    (
    .ok ((258 : Int), (0 : Int)))
    (
    lt ((w64 (symbol2233 - (257 : Int)))) fun (k_2235 : Int) =>
    cond (decide (k_2235 < (8 : Int)))
      (
      lt ((w64 ((3 : Int) + k_2235))) fun (v2237 : Int) =>
      .ok (v2237, (0 : Int)))
      (
      lt ((w64 ((iquo .i64 k_2235 (4 : Int)) - (1 : Int)))) fun (more2238 : Int) =>
      chk (decide (0 ≤ (wr .u64 more2238))) <|
      lt ((w64 ((3 : Int) + (ishl .i64 (w64 ((4 : Int) + (irem k_2235 (4 : Int)))) (wr .u64 more2238))))) fun (v2240 : Int) =>
      .ok (v2240, more2238)))

def mortiseref07_Distance.m (K : Nat) (symbol2258 : Int) : Res (Int × Int) :=
  cond (decide (symbol2258 < (4 : Int)))
    (
    lt ((w64 ((1 : Int) + symbol2258))) fun (v2260 : Int) =>
    .ok (v2260, (0 : Int)))
    (
    lt ((w64 ((iquo .i64 symbol2258 (2 : Int)) - (1 : Int)))) fun (more2261 : Int) =>
    chk (decide (0 ≤ (wr .u64 more2261))) <|
    lt ((w64 ((1 : Int) + (ishl .i64 (w64 ((2 : Int) + (irem symbol2258 (2 : Int)))) (wr .u64 more2261))))) fun (v2263 : Int) =>
    .ok (v2263, more2261))

def mortiseref07_state_match.l1 (K : Nat) (x2245 : Int) (x2268 : Int) (at_2270 : Int) : Nat → (List Int) → Int → Res (Int × Int × (List Int))
  | 0, _, _ => .fail
  | k + 1, out2304, i2309 =>
    cond (decide (i2309 < x2245))
      (
      chk (inb (w64 ((out2304.length : Int) - x2268)) out2304.length) <|
      chk (room (out2304.length + ([(rd out2304 (w64 ((out2304.length : Int) - x2268)))] : List Int).length) 1) <|
      lt (out2304 ++ ([(rd out2304 (w64 ((out2304.length : Int) - x2268)))] : List Int)) fun (zs2323 : (List Int)) =>
      lt ((w64 (i2309 + (1 : Int)))) fun (i2326 : Int) =>
      mortiseref07_state_match.l1 K x2245 x2268 at_2270 k zs2323 i2326)
      (
      .ok ((0 : Int), at_2270, out2304))

def mortiseref07_state_match.m (K : Nat) (s2208 : T_mortiseref07_state) (symbol2219 : Int) (distances2220 : T_mortiseref07_code) : Res (Int × Int × (List Int)) :=
  cond (decide (symbol2219 > (285 : Int)))
    (
    .ok ((3 : Int), s2208.r_.At_, s2208.out_))
    (
    (mortiseref07_Length.m K symbol2219).bind fun (x2243, x2244) =>
    (mortiseref07_state_bits.m K s2208 x2244 x2243).bind fun (x2245, x2246, at_2247) =>
    cond (x2246 != (0 : Int))
      (
      .ok (x2246, at_2247, s2208.out_))
      (
      (mortiseref06_Next.m K distances2220.l_ distances2220.codes_ (T_mortiseref05_Reader.mk s2208.r_.S_ at_2247)).bind fun (x2251, x2252, at_2253) =>
      cond (x2252 != (0 : Int))
        (
        .ok (x2252, at_2253, s2208.out_))
        (
        cond (decide (x2251 > (29 : Int)))
          (
          .ok ((3 : Int), at_2253, s2208.out_))
          (
          (mortiseref07_Distance.m K x2251).bind fun (x2266, x2267) =>
          (mortiseref07_state_bits.m K (T_mortiseref07_state.mk (T_mortiseref05_Reader.mk s2208.r_.S_ at_2253) s2208.out_ s2208.limit_) x2267 x2266).bind fun (x2268, x2269, at_2270) =>
          cond (x2269 != (0 : Int))
            (
            .ok (x2269, at_2270, s2208.out_))
            (
            cond (decide (x2268 > (s2208.out_.length : Int)))
              (
              .ok ((3 : Int), at_2270, s2208.out_))
              (
              cond (decide (x2245 > (w64 (s2208.limit_ - (s2208.out_.length : Int)))))
                (
                .ok ((11 : Int), at_2270, s2208.out_))
                (
                mortiseref07_state_match.l1 K x2245 x2268 at_2270 K s2208.out_ (0 : Int))))))))

def mortiseref07_state_symbols.l1 (K : Nat) (s2037 : T_mortiseref07_state) (literals2048 : T_mortiseref07_code) (distances2057 : T_mortiseref07_code) : Nat → Int → (List Int) → Res (Int × Int × (List Int))
  | 0, _, _ => .fail
  | k + 1, at_2361, out2366 =>
    (mortiseref06_Next.m K literals2048.l_ literals2048.codes_ (T_mortiseref05_Reader.mk s2037.r_.S_ at_2361)).bind fun (x2372, x2373, at_2374) =>
    cond (x2373 != (0 : Int))
      (
      .ok (x2373, at_2374, out2366))
      (
      cond (x2372 == (256 : Int))
        (
        .ok ((0 : Int), at_2374, out2366))
        (
        cond (decide (x2372 < (256 : Int)))
          (
          cond (decide ((out2366.length : Int) ≥ s2037.limit_))
            (
            .ok ((11 : Int), at_2374, out2366))
            (
            chk (room (out2366.length + ([(wr .u8 x2372)] : List Int).length) 1) <|
            lt (out2366 ++ ([(wr .u8 x2372)] : List Int)) fun (zs2390 : (List Int)) =>
            mortiseref07_state_symbols.l1 K s2037 literals2048 distances2057 k at_2374 zs2390))
          (
          (mortiseref07_state_match.m K (T_mortiseref07_state.mk (T_mortiseref05_Reader.mk s2037.r_.S_ at_2374) out2366 s2037.limit_) x2372 distances2057).bind fun (x2393, at_2394, out2398) =>
          cond (x2393 != (0 : Int))
            (
            .ok (x2393, at_2394, out2398))
            (
            mortiseref07_state_symbols.l1 K s2037 literals2048 distances2057 k at_2394 out2398))))

def mortiseref07_state_symbols.m (K : Nat) (s2037 : T_mortiseref07_state) (literals2048 : T_mortiseref07_code) (distances2057 : T_mortiseref07_code) : Res (Int × Int × (List Int)) :=
  mortiseref07_state_symbols.l1 K s2037 literals2048 distances2057 K s2037.r_.At_ s2037.out_

def mortiseref07_Order.m (K : Nat) : Res Unit :=
  .ok ()

def mortiseref07_state_head.j2 (K : Nat) (x2460 : Int) (x2472 : Int) (at_2586 : Int) (l_2589 : (List Int)) (any2592 : Bool) : Res (Int × Int × (List Int) × (List Int) × Int × Int) :=
  (mortiseref07_coded.m K l_2589).bind fun (codes2596, x2598) =>
  cond ((!x2598) || (!any2592))
    (
    .ok ((0 : Int), (0 : Int), ([] : List Int), ([] : List Int), (3 : Int), at_2586))
    (
    .ok (x2460, x2472, l_2589, codes2596, (0 : Int), at_2586))

def mortiseref07_state_head.l1 (K : Nat) (s2442 : T_mortiseref07_state) (x2460 : Int) (x2472 : Int) (x2484 : Int) : Nat → Int → (List Int) → Bool → Int → Res (Int × Int × (List Int) × (List Int) × Int × Int)
  | 0, _, _, _, _ => .fail
  | k + 1, at_2555, l_2558, any2561, i2562 =>
    cond (decide (i2562 < x2484))
      (
      (mortiseref07_state_bits.m K (T_mortiseref07_state.mk (T_mortiseref05_Reader.mk s2442.r_.S_ at_2555) s2442.out_ s2442.limit_) (3 : Int) (0 : Int)).bind fun (x2565, x2566, at_2567) =>
      cond (x2566 != (0 : Int))
        (
        .ok ((0 : Int), (0 : Int), ([] : List Int), ([] : List Int), x2566, at_2567))
        (
        chk (inb i2562 ([(16 : Int), (17 : Int), (18 : Int), (0 : Int), (8 : Int), (7 : Int), (9 : Int), (6 : Int), (10 : Int), (5 : Int), (11 : Int), (4 : Int), (12 : Int), (3 : Int), (13 : Int), (2 : Int), (14 : Int), (1 : Int), (15 : Int)] : List Int).length) <|
        chk (inb (rd ([(16 : Int), (17 : Int), (18 : Int), (0 : Int), (8 : Int), (7 : Int), (9 : Int), (6 : Int), (10 : Int), (5 : Int), (11 : Int), (4 : Int), (12 : Int), (3 : Int), (13 : Int), (2 : Int), (14 : Int), (1 : Int), (15 : Int)] : List Int) i2562) l_2558.length) <|
        lt (l_2558.set (Int.toNat (rd ([(16 : Int), (17 : Int), (18 : Int), (0 : Int), (8 : Int), (7 : Int), (9 : Int), (6 : Int), (10 : Int), (5 : Int), (11 : Int), (4 : Int), (12 : Int), (3 : Int), (13 : Int), (2 : Int), (14 : Int), (1 : Int), (15 : Int)] : List Int) i2562)) x2565) fun (zs2581 : (List Int)) =>
        lt ((any2561 || (decide (x2565 > (0 : Int))))) fun (any2583 : Bool) =>
        lt ((w64 (i2562 + (1 : Int)))) fun (i2584 : Int) =>
        mortiseref07_state_head.l1 K s2442 x2460 x2472 x2484 k at_2567 zs2581 any2583 i2584))
      (
      mortiseref07_state_head.j2 K x2460 x2472 at_2555 l_2558 any2561)

def mortiseref07_state_head.m (K : Nat) (s2442 : T_mortiseref07_state) : Res (Int × Int × (List Int) × (List Int) × Int × Int) :=
  (mortiseref07_state_bits.m K s2442 (5 : Int) (257 : Int)).bind fun (x2460, x2461, at_2462) =>
  cond (x2461 != (0 : Int))
    (
    .ok ((0 : Int), (0 : Int), ([] : List Int), ([] : List Int), x2461, at_2462))
    (
    (mortiseref07_state_bits.m K (T_mortiseref07_state.mk (T_mortiseref05_Reader.mk s2442.r_.S_ at_2462) s2442.out_ s2442.limit_) (5 : Int) (1 : Int)).bind fun (x2472, x2473, at_2474) =>
    cond (x2473 != (0 : Int))
      (
      .ok ((0 : Int), (0 : Int), ([] : List Int), ([] : List Int), x2473, at_2474))
      (
      (mortiseref07_state_bits.m K (T_mortiseref07_state.mk (T_mortiseref05_Reader.mk s2442.r_.S_ at_2474) s2442.out_ s2442.limit_) (4 : Int) (4 : Int)).bind fun (x2484, x2485, at_2486) =>
      cond (x2485 != (0 : Int))
        (
        .ok ((0 : Int), (0 : Int), ([] : List Int), ([] : List Int), x2485, at_2486))
        (
        cond ((decide (x2460 > (286 : Int))) || (decide (x2472 > (30 : Int))))
          (
          .ok ((0 : Int), (0 : Int), ([] : List Int), ([] : List Int), (3 : Int), at_2486))
          (
          chk (decide (0 ≤ (19 : Int)) && room (Int.toNat (19 : Int)) 8) <|
          lt (List.replicate (Int.toNat (19 : Int)) (0 : Int)) fun (zs2508 : (List Int)) =>
          (mortiseref07_Order.m K).bind fun _ =>
          mortiseref07_state_head.l1 K s2442 x2460 x2472 x2484 K at_2486 zs2508 false (0 : Int)))))

def mortiseref07_state_row.l3 (K : Nat) (g1 : Int → (List Int) → Res ((List Int) × Int × Int)) (at_2847 : Int) (value2851 : Int) (times2852 : Int) : Nat → (List Int) → Int → Res ((List Int) × Int × Int)
  | 0, _, _ => .fail
  | k + 1, out2882, i2885 =>
    cond (decide (i2885 < times2852))
      (
      chk (room (out2882.length + ([value2851] : List Int).length) 8) <|
      lt (out2882 ++ ([value2851] : List Int)) fun (zs2897 : (List Int)) =>
      lt ((w64 (i2885 + (1 : Int)))) fun (i2898 : Int) =>
      mortiseref07_state_row.l3 K g1 at_2847 value2851 times2852 k zs2897 i2898)
      (
      g1 at_2847 out2882)

def mortiseref07_state_row.j2 (K : Nat) (g1 : Int → (List Int) → Res ((List Int) × Int × Int)) (n_2671 : Int) (out2799 : (List Int)) (at_2847 : Int) (e_2850 : Int) (value2851 : Int) (times2852 : Int) : Res ((List Int) × Int × Int) :=
  cond (e_2850 != (0 : Int))
    (
    .ok (([] : List Int), e_2850, at_2847))
    (
    cond (decide (times2852 > (w64 (n_2671 - (out2799.length : Int)))))
      (
      .ok (([] : List Int), (3 : Int), at_2847))
      (
      mortiseref07_state_row.l3 K (g1) at_2847 value2851 times2852 K out2799 (0 : Int)))

def mortiseref07_state_row.l1 (K : Nat) (s2660 : T_mortiseref07_state) (n_2671 : Int) (c_2672 : T_mortiseref07_code) : Nat → Int → (List Int) → Res ((List Int) × Int × Int)
  | 0, _, _ => .fail
  | k + 1, at_2794, out2799 =>
    cond (decide ((out2799.length : Int) < n_2671))
      (
      (mortiseref06_Next.m K c_2672.l_ c_2672.codes_ (T_mortiseref05_Reader.mk s2660.r_.S_ at_2794)).bind fun (x2804, x2805, at_2806) =>
      cond (x2805 != (0 : Int))
        (
        .ok (([] : List Int), x2805, at_2806))
        (
        cond (decide (x2804 < (16 : Int)))
          (
          chk (room (out2799.length + ([x2804] : List Int).length) 8) <|
          lt (out2799 ++ ([x2804] : List Int)) fun (zs2822 : (List Int)) =>
          mortiseref07_state_row.l1 K s2660 n_2671 c_2672 k at_2806 zs2822)
          (
          lt ((x2804 == (16 : Int))) fun (v2823 : Bool) =>
          cond v2823
            (
            cond ((out2799.length : Int) == (0 : Int))
              (
              .ok (([] : List Int), (3 : Int), at_2806))
              (
              chk (inb (w64 ((out2799.length : Int) - (1 : Int))) out2799.length) <|
              lt ((rd out2799 (w64 ((out2799.length : Int) - (1 : Int))))) fun (value2829 : Int) =>
              (mortiseref07_state_bits.m K (T_mortiseref07_state.mk (T_mortiseref05_Reader.mk s2660.r_.S_ at_2806) s2660.out_ s2660.limit_) (2 : Int) (3 : Int)).bind fun (x2830, x2831, at_2832) =>
              mortiseref07_state_row.j2 K (mortiseref07_state_row.l1 K s2660 n_2671 c_2672 k) n_2671 out2799 at_2832 x2831 value2829 x2830))
            (
            lt ((x2804 == (17 : Int))) fun (v2835 : Bool) =>
            cond v2835
              (
              (mortiseref07_state_bits.m K (T_mortiseref07_state.mk (T_mortiseref05_Reader.mk s2660.r_.S_ at_2806) s2660.out_ s2660.limit_) (3 : Int) (3 : Int)).bind fun (x2837, x2838, at_2839) =>
              mortiseref07_state_row.j2 K (mortiseref07_state_row.l1 K s2660 n_2671 c_2672 k) n_2671 out2799 at_2839 x2838 (0 : Int) x2837)
              (
              (mortiseref07_state_bits.m K (T_mortiseref07_state.mk (T_mortiseref05_Reader.mk s2660.r_.S_ at_2806) s2660.out_ s2660.limit_) (7 : Int) (11 : Int)).bind fun (x2842, x2843, at_2844) =>
              mortiseref07_state_row.j2 K (mortiseref07_state_row.l1 K s2660 n_2671 c_2672 k) n_2671 out2799 at_2844 x2843 (0 : Int) x2842)))))
      (
      .ok (out2799, (0 : Int), at_2794))

def mortiseref07_state_row.m (K : Nat) (s2660 : T_mortiseref07_state) (n_2671 : Int) (c_2672 : T_mortiseref07_code) : Res ((List Int) × Int × Int) :=
  mortiseref07_state_row.l1 K s2660 n_2671 c_2672 K s2660.r_.At_ ([] : List Int)

def mortiseref07_state_dynamic.m (K : Nat) (s2431 : T_mortiseref07_state) : Res (Int × Int × (List Int)) :=
  (mortiseref07_state_head.m K s2431).bind fun (x2634, x2635, l_2638, codes2642, x2644, at_2645) =>
  cond (x2644 != (0 : Int))
    (
    .ok (x2644, at_2645, s2431.out_))
    (
    (mortiseref07_state_row.m K (T_mortiseref07_state.mk (T_mortiseref05_Reader.mk s2431.r_.S_ at_2645) s2431.out_ s2431.limit_) (w64 (x2634 + x2635)) (T_mortiseref07_code.mk l_2638 codes2642)).bind fun (x2912, x2914, at_2915) =>
    cond (x2914 != (0 : Int))
      (
      .ok (x2914, at_2915, s2431.out_))
      (
      chk (subok (0 : Int) x2634 x2912.length) <|
      lt (sub x2912 (0 : Int) x2634) fun (zs2921 : (List Int)) =>
      (mortiseref07_coded.m K zs2921).bind fun (codes2928, x2930) =>
      chk (subok x2634 (x2912.length : Int) x2912.length) <|
      lt (sub x2912 x2634 (x2912.length : Int)) fun (zs2942 : (List Int)) =>
      (mortiseref07_coded.m K zs2942).bind fun (codes2949, x2951) =>
      chk (imp false ((!x2930) || (!x2951)) (inb (256 : Int) x2912.length)) <|
      cond (((!x2930) || (!x2951)) || ((rd x2912 (256 : Int)) == (0 : Int)))
        (
        .ok ((3 : Int), at_2915, s2431.out_))
        (
        (mortiseref07_state_symbols.m K (T_mortiseref07_state.mk (T_mortiseref05_Reader.mk s2431.r_.S_ at_2915) s2431.out_ s2431.limit_) (T_mortiseref07_code.mk zs2921 codes2928) (T_mortiseref07_code.mk zs2942 codes2949)).bind fun (x2966, at_2967, out2971) =>
        .ok (x2966, at_2967, out2971))))

def mortiseref07_state_block.m (K : Nat) (s1515 : T_mortiseref07_state) : Res (Bool × Int × Int × (List Int)) :=
  (mortiseref07_state_bits.m K s1515 (1 : Int) (0 : Int)).bind fun (x1578, x1579, at_1580) =>
  cond (x1579 != (0 : Int))
    (
    .ok (false, x1579, at_1580, s1515.out_))
    (
    (mortiseref07_state_bits.m K (T_mortiseref07_state.mk (T_mortiseref05_Reader.mk s1515.r_.S_ at_1580) s1515.out_ s1515.limit_) (2 : Int) (0 : Int)).bind fun (x1584, x1585, at_1586) =>
    cond (x1585 != (0 : Int))
      (
      .ok (false, x1585, at_1586, s1515.out_))
      (
      lt ((x1584 == (0 : Int))) fun (v1590 : Bool) =>
      cond v1590
        (
        (mortiseref07_state_stored.m K (T_mortiseref07_state.mk (T_mortiseref05_Reader.mk s1515.r_.S_ at_1586) s1515.out_ s1515.limit_)).bind fun (x1688, at_1689, out1693) =>
        lt ((x1578 == (1 : Int))) fun (v1699 : Bool) =>
        .ok (v1699, x1688, at_1689, out1693))
        (
        lt ((x1584 == (1 : Int))) fun (v1700 : Bool) =>
        cond v1700
          (
          (mortiseref07_Fixed.m K).bind fun (x1818, x1822) =>
          (mortiseref07_coded.m K x1818).bind fun (codes2009, x2011) =>
          (mortiseref07_coded.m K x1822).bind fun (codes2024, x2026) =>
          (mortiseref07_state_symbols.m K (T_mortiseref07_state.mk (T_mortiseref05_Reader.mk s1515.r_.S_ at_1586) s1515.out_ s1515.limit_) (T_mortiseref07_code.mk x1818 codes2009) (T_mortiseref07_code.mk x1822 codes2024)).bind fun (x2417, at_2418, out2422) =>
          lt ((x1578 == (1 : Int))) fun (v2428 : Bool) =>
          .ok (v2428, x2417, at_2418, out2422))
          (
          lt ((x1584 == (2 : Int))) fun (v2429 : Bool) =>
          cond v2429
            (
            (mortiseref07_state_dynamic.m K (T_mortiseref07_state.mk (T_mortiseref05_Reader.mk s1515.r_.S_ at_1586) s1515.out_ s1515.limit_)).bind fun (x2988, at_2989, out2993) =>
            lt ((x1578 == (1 : Int))) fun (v2999 : Bool) =>
            .ok (v2999, x2988, at_2989, out2993))
            (
            .ok (false, (3 : Int), at_1586, s1515.out_))))))

def mortiseref07_Inflate.l1 (K : Nat) (t1503 : List UInt8) (limit1504 : Int) : Nat → Int → (List Int) → Res ((List UInt8) × Int × Int)
  | 0, _, _ => .fail
  | k + 1, at_3040, out3045 =>
    (mortiseref07_state_block.m K (T_mortiseref07_state.mk (T_mortiseref05_Reader.mk t1503 at_3040) out3045 limit1504)).bind fun (x3051, x3052, at_3053, out3057) =>
    cond (x3052 != (0 : Int))
      (
      .ok (([] : List UInt8), (0 : Int), x3052))
      (
      cond x3051
        (
        lt ((out3057.map tob)) fun (v3065 : List UInt8) =>
        lt ((iquo .i64 (w64 (at_3053 + (7 : Int))) (8 : Int))) fun (v3067 : Int) =>
        .ok (v3065, v3067, (0 : Int)))
        (
        mortiseref07_Inflate.l1 K t1503 limit1504 k at_3053 out3057))

def mortiseref07_Inflate.m (K : Nat) (t1503 : List UInt8) (limit1504 : Int) : Res ((List UInt8) × Int × Int) :=
  cond ((decide (limit1504 < (0 : Int))) || (decide (limit1504 > (1073741824 : Int))))
    (
    .ok (([] : List UInt8), (0 : Int), (1 : Int)))
    (
    mortiseref07_Inflate.l1 K t1503 limit1504 K (0 : Int) ([] : List Int))

def mortiselaw07_InflateReads.j1 (K : Nat)  (v3078 : Bool) : Res Bool :=
  .ok v3078

def mortiselaw07_InflateReads.m (K : Nat) (s1 : List UInt8) (limit2 : Int) : Res Bool :=
  cond ((decide ((s1.length : Int) > (3000 : Int))) || (decide (limit2 > (40000 : Int))))
    (
    (mortiselaw07_live.m K).bind fun x1499 =>
    .ok x1499)
    (
    (inflate_Inflate.m K s1 limit2).bind fun (x1500, x1501, x1502) =>
    (mortiseref07_Inflate.m K s1 limit2).bind fun (x3073, x3074, x3075) =>
    cond (((x1500 == x3073) && (x1501 == x3074)) && (x1502 == x3075))
      (
      (mortiselaw07_live.m K).bind fun x3077 =>
      mortiselaw07_InflateReads.j1 K x3077)
      (
      mortiselaw07_InflateReads.j1 K false))
end Go.Mo
