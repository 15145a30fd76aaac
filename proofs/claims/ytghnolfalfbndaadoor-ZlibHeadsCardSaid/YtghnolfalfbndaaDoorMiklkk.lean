/- Models of the Go functions that this statement reaches, printed by a program of mine: nothing is proved but lengths of tables. -/
import Derived.Test.YtghnolfalfbndaaDoorOwn
set_option linter.unusedVariables false
set_option linter.unusedSimpArgs false
namespace Go.Mo
open Go Go.Sl
structure T_win_Window where
  text_ : List UInt8
  base_ : Int
  deriving Inhabited
structure T_bits_place where
  at_ : Int
  deriving Inhabited
structure T_bits_Reader where
  place_ : T_bits_place
  text_ : List UInt8
  deriving Inhabited
structure T_inflate_reader where
  Reader_ : T_bits_Reader
  out_ : (List Int)
  limit_ : Int
  deriving Inhabited
structure T_huff_Table where
  counts_ : (List Int)
  symbols_ : (List Int)
  deriving Inhabited
structure T_inflate_run where
  from_ : Int
  bits_ : Int
  deriving Inhabited
structure T_mortiseref05_Reader where
  S_ : List UInt8
  At_ : Int
  deriving Inhabited
structure T_mortiseref07_state where
  r_ : T_mortiseref05_Reader
  out_ : (List Int)
  limit_ : Int
  deriving Inhabited
structure T_mortiseref07_code where
  l_ : (List Int)
  codes_ : (List Int)
  deriving Inhabited
abbrev ty_inflate_failed : TypeId := 46
def tab_inflate_lengths : List T_inflate_run := [⟨3, 0⟩, ⟨4, 0⟩, ⟨5, 0⟩, ⟨6, 0⟩, ⟨7, 0⟩, ⟨8, 0⟩, ⟨9, 0⟩, ⟨10, 0⟩, ⟨11, 1⟩, ⟨13, 1⟩, ⟨15, 1⟩, ⟨17, 1⟩, ⟨19, 2⟩, ⟨23, 2⟩, ⟨27, 2⟩, ⟨31, 2⟩, ⟨35, 3⟩, ⟨43, 3⟩, ⟨51, 3⟩, ⟨59, 3⟩, ⟨67, 4⟩, ⟨83, 4⟩, ⟨99, 4⟩, ⟨115, 4⟩, ⟨131, 5⟩, ⟨163, 5⟩, ⟨195, 5⟩, ⟨227, 5⟩, ⟨258, 0⟩]
theorem tab_inflate_lengths_len : tab_inflate_lengths.length = 29 := by decide
def tab_inflate_distances : List T_inflate_run := [⟨1, 0⟩, ⟨2, 0⟩, ⟨3, 0⟩, ⟨4, 0⟩, ⟨5, 1⟩, ⟨7, 1⟩, ⟨9, 2⟩, ⟨13, 2⟩, ⟨17, 3⟩, ⟨25, 3⟩, ⟨33, 4⟩, ⟨49, 4⟩, ⟨65, 5⟩, ⟨97, 5⟩, ⟨129, 6⟩, ⟨193, 6⟩, ⟨257, 7⟩, ⟨385, 7⟩, ⟨513, 8⟩, ⟨769, 8⟩, ⟨1025, 9⟩, ⟨1537, 9⟩, ⟨2049, 10⟩, ⟨3073, 10⟩, ⟨4097, 11⟩, ⟨6145, 11⟩, ⟨8193, 12⟩, ⟨12289, 12⟩, ⟨16385, 13⟩, ⟨24577, 13⟩]
theorem tab_inflate_distances_len : tab_inflate_distances.length = 30 := by decide
def tab_inflate_order : List Int := [16, 17, 18, 0, 8, 7, 9, 6, 10, 5, 11, 4, 12, 3, 13, 2, 14, 1, 15]
theorem tab_inflate_order_len : tab_inflate_order.length = 19 := by decide

def win_Of.m (K : Nat) (s7 : List UInt8) : Res Unit :=
  .ok ()

def win_isWidth.m (K : Nat) (n_19 : Int) : Res Bool :=
  lt ((((decide (n_19 > (0 : Int))) && (decide (n_19 ≤ (8 : Int)))) && ((iand .i64 n_19 (w64 (n_19 - (1 : Int)))) == (0 : Int)))) fun (v20 : Bool) =>
  .ok v20

def win_Window_Sub.m (K : Nat) (w_24 : T_win_Window) (at_25 : Int) (n_26 : Int) : Res ((List UInt8) × Int × Int) :=
  cond ((decide (at_25 < (0 : Int))) || (decide (n_26 < (0 : Int))))
    (
    .ok (([] : List UInt8), (0 : Int), (1 : Int)))
    (
    cond ((decide (at_25 > (w_24.text_.length : Int))) || (decide (n_26 > (w64 ((w_24.text_.length : Int) - at_25)))))
      (
      .ok (([] : List UInt8), (0 : Int), (2 : Int)))
      (
      chk (subok at_25 (w64 (at_25 + n_26)) w_24.text_.length) <|
      .ok ((sub w_24.text_ at_25 (w64 (at_25 + n_26))), (w64 (w_24.base_ + at_25)), (0 : Int))))

def win_order_true.m (K : Nat) (width55 : Int) : Res Unit :=
  .ok ()

def win_order_1_e6c5.m (K : Nat) (weight69 : Int) (free70 : Int) : Res Int :=
  lt ((w64 ((w64 (free70 - (1 : Int))) - weight69))) fun (v74 : Int) =>
  .ok v74

def win_Window_Uint_true.l1 (K : Nat) (width15 : Int) (text46 : List UInt8) : Nat → Int → Int → Res (Int × Int)
  | 0, _, _ => .fail
  | k + 1, n_65, v66 =>
    cond (decide (v66 < width15))
      (
      (win_order_1_e6c5.m K v66 width15).bind fun x76 =>
      chk (inb x76 text46.length) <|
      chk (decide (0 ≤ (w64 ((8 : Int) * v66)))) <|
      lt ((ior .u64 n_65 (ishl .u64 (wr .u64 ((rd text46 x76).toNat : Int)) (w64 ((8 : Int) * v66))))) fun (n_81 : Int) =>
      win_Window_Uint_true.l1 K width15 text46 k n_81 (w64 (v66 + (1 : Int))))
      (
      .ok (n_65, (0 : Int)))

def win_Window_Uint_true.m (K : Nat) (w_13 : T_win_Window) (at_14 : Int) (width15 : Int) : Res (Int × Int) :=
  (win_isWidth.m K width15).bind fun x22 =>
  cond (!x22)
    (
    .ok ((0 : Int), (1 : Int)))
    (
    (win_Window_Sub.m K w_13 at_14 width15).bind fun (text46, base47, x48) =>
    cond (x48 != (0 : Int))
      (
      .ok ((0 : Int), x48))
      (
      (win_order_true.m K width15).bind fun _ =>
      win_Window_Uint_true.l1 K width15 text46 K (0 : Int) (0 : Int)))

def bits_New.m (K : Nat) (s122 : List UInt8) : Res Unit :=
  .ok ()

def bits_Reader_Bits.j2 (K : Nat) (r161 : T_bits_Reader) (n_165 : Int) (v181 : Int) : Res (Int × Int × Int) :=
  chk (decide (0 ≤ (iand .i64 r161.place_.at_ (7 : Int)))) <|
  lt ((ishr .u64 v181 (iand .i64 r161.place_.at_ (7 : Int)))) fun (v184 : Int) =>
  chk (decide (0 ≤ n_165)) <|
  lt ((wr .u32 (iand .u64 v184 (wr .u64 ((ishl .u64 (1 : Int) n_165) - (1 : Int)))))) fun (v188 : Int) =>
  .ok (v188, (0 : Int), (w64 (r161.place_.at_ + n_165)))

def bits_Reader_Bits.l1 (K : Nat) (r161 : T_bits_Reader) (n_165 : Int) (first171 : Int) : Nat → Int → Int → Res (Int × Int × Int)
  | 0, _, _ => .fail
  | k + 1, v172, i173 =>
    cond (decide ((w64 ((8 : Int) * (w64 (first171 + i173)))) < (w64 (r161.place_.at_ + n_165))))
      (
      chk (inb (w64 (first171 + i173)) r161.text_.length) <|
      chk (decide (0 ≤ (w64 ((8 : Int) * i173)))) <|
      lt ((ior .u64 v172 (ishl .u64 (wr .u64 ((rd r161.text_ (w64 (first171 + i173))).toNat : Int)) (w64 ((8 : Int) * i173))))) fun (v178 : Int) =>
      lt ((w64 (i173 + (1 : Int)))) fun (i179 : Int) =>
      bits_Reader_Bits.l1 K r161 n_165 first171 k v178 i179)
      (
      bits_Reader_Bits.j2 K r161 n_165 v172)

def bits_Reader_Bits.m (K : Nat) (r161 : T_bits_Reader) (n_165 : Int) : Res (Int × Int × Int) :=
  lt (((decide (n_165 < (0 : Int))) || (decide (n_165 > (32 : Int))))) fun (v166 : Bool) =>
  cond v166
    (
    .ok ((0 : Int), (1 : Int), r161.place_.at_))
    (
    lt ((decide (n_165 > (w64 ((w64 ((8 : Int) * (r161.text_.length : Int))) - r161.place_.at_))))) fun (v168 : Bool) =>
    cond v168
      (
      .ok ((0 : Int), (2 : Int), r161.place_.at_))
      (
      lt ((iquo .i64 r161.place_.at_ (8 : Int))) fun (first171 : Int) =>
      bits_Reader_Bits.l1 K r161 n_165 first171 K (0 : Int) (0 : Int)))

def inflate_must.m (K : Nat) (e_199 : Int) : Res Unit :=
  cond (e_199 != (0 : Int))
    (
    .pan (.iface ty_inflate_failed (.agg ⟨[.int .i64 e_199]⟩)))
    (
    .ok ())

def inflate_reader_number.m (K : Nat) (r149 : T_inflate_reader) (n_160 : Int) : Res (Int × Int) :=
  (bits_Reader_Bits.m K r149.Reader_ n_160).bind fun (x194, x195, at_196) =>
  (inflate_must.m K x195).bind fun _ =>
  lt ((wr .i64 x194)) fun (v201 : Int) =>
  .ok (v201, at_196)

def bits_place_align_bits_Reader.m (K : Nat) (p234 : T_bits_Reader) : Res Int :=
  .ok (iandn .i64 (w64 (p234.place_.at_ + (7 : Int))) (7 : Int))

def bits_Reader_Bytes.m (K : Nat) (r228 : T_bits_Reader) (n_232 : Int) : Res ((List UInt8) × Int × Int) :=
  cond (decide (n_232 < (0 : Int)))
    (
    .ok (([] : List UInt8), (1 : Int), r228.place_.at_))
    (
    (bits_place_align_bits_Reader.m K r228).bind fun at_243 =>
    chk (subok (iquo .i64 at_243 (8 : Int)) (r228.text_.length : Int) r228.text_.length) <|
    lt ((sub r228.text_ (iquo .i64 at_243 (8 : Int)) (r228.text_.length : Int))) fun (rest248 : List UInt8) =>
    cond (decide (n_232 > (rest248.length : Int)))
      (
      .ok (([] : List UInt8), (2 : Int), at_243))
      (
      chk (subok (0 : Int) n_232 rest248.length) <|
      lt ((sub rest248 (0 : Int) n_232)) fun (v254 : List UInt8) =>
      .ok (v254, (0 : Int), (w64 (at_243 + (w64 ((8 : Int) * n_232)))))))

def inflate_refuse.m (K : Nat) (bad275 : Bool) (e_276 : Int) : Res Unit :=
  cond bad275
    (
    .pan (.iface ty_inflate_failed (.agg ⟨[.int .i64 e_276]⟩)))
    (
    .ok ())

def inflate_reader_stored.m (K : Nat) (r217 : T_inflate_reader) : Res (Int × (List Int)) :=
  (bits_Reader_Bytes.m K r217.Reader_ (4 : Int)).bind fun (x260, x261, at_262) =>
  (inflate_must.m K x261).bind fun _ =>
  chk (inb (0 : Int) x260.length) <|
  chk (inb (1 : Int) x260.length) <|
  lt ((ior .i64 (wr .i64 ((rd x260 (0 : Int)).toNat : Int)) (ishl .i64 (wr .i64 ((rd x260 (1 : Int)).toNat : Int)) (8 : Int)))) fun (n_269 : Int) =>
  chk (inb (2 : Int) x260.length) <|
  chk (inb (3 : Int) x260.length) <|
  (inflate_refuse.m K ((ior .i64 (wr .i64 ((rd x260 (2 : Int)).toNat : Int)) (ishl .i64 (wr .i64 ((rd x260 (3 : Int)).toNat : Int)) (8 : Int))) != (ixor .i64 n_269 (65535 : Int))) (3 : Int)).bind fun _ =>
  (bits_Reader_Bytes.m K (T_bits_Reader.mk (T_bits_place.mk at_262) r217.Reader_.text_) n_269).bind fun (x278, x279, at_280) =>
  (inflate_must.m K x279).bind fun _ =>
  (inflate_refuse.m K (decide ((w64 ((r217.out_.length : Int) + n_269)) > r217.limit_)) (11 : Int)).bind fun _ =>
  chk (room (r217.out_.length + x278.length) 1) <|
  lt (r217.out_ ++ x278.map ofb) fun (zs288 : (List Int)) =>
  .ok (at_280, zs288)

def huff_count.j2 (K : Nat)  (c_473 : (List Int)) : Res ((List Int) × Bool) :=
  lt (c_473.set (Int.toNat (0 : Int)) (0 : Int)) fun (zs480 : (List Int)) =>
  .ok (zs480, true)

def huff_count.l1 (K : Nat) (lengths426 : List Int) : Nat → (List Int) → Int → Res ((List Int) × Bool)
  | 0, _, _ => .fail
  | k + 1, c_455, v459 =>
    cond (decide (v459 < (lengths426.length : Int)))
      (
      chk (inb v459 lengths426.length) <|
      lt ((rd lengths426 v459)) fun (n_463 : Int) =>
      cond ((decide (n_463 < (0 : Int))) || (decide (n_463 > (15 : Int))))
        (
        .ok (c_455, false))
        (
        chk (inb n_463 16) <|
        lt (c_455.set (Int.toNat n_463) (w64 ((rd c_455 n_463) + (1 : Int)))) fun (zs470 : (List Int)) =>
        huff_count.l1 K lengths426 k zs470 (w64 (v459 + (1 : Int)))))
      (
      huff_count.j2 K c_455)

def huff_count.m (K : Nat) (lengths426 : List Int) : Res ((List Int) × Bool) :=
  cond (decide ((lengths426.length : Int) > (320 : Int)))
    (
    .ok ((List.replicate 16 (0 : Int)), false))
    (
    huff_count.l1 K lengths426 K (List.replicate 16 (0 : Int)) (0 : Int))

def huff_Check.j2 (K : Nat) (x487 : (List Int)) (sum505 : Int) : Res Int :=
  cond (((sum505 == (0 : Int)) || (sum505 == (32768 : Int))) || (x487 == ([0, (1 : Int), 0, 0, 0, 0, 0, 0, 0, 0, 0, 0, 0, 0, 0, 0] : List Int)))
    (
    .ok (0 : Int))
    (
    .ok (3 : Int))

def huff_Check.l1 (K : Nat) (x487 : (List Int)) : Nat → Int → Int → Res Int
  | 0, _, _ => .fail
  | k + 1, sum496, v497 =>
    cond (decide (v497 < (16 : Int)))
      (
      chk (inb v497 16) <|
      lt ((rd x487 v497)) fun (k_501 : Int) =>
      chk (decide (0 ≤ v497)) <|
      lt ((w64 (sum496 + (w64 (k_501 * (ishr .i64 (32768 : Int) v497)))))) fun (sum503 : Int) =>
      huff_Check.l1 K x487 k sum503 (w64 (v497 + (1 : Int))))
      (
      huff_Check.j2 K x487 sum496)

def huff_Check.m (K : Nat) (lengths421 : List Int) : Res Int :=
  (huff_count.m K lengths421).bind fun (x487, x488) =>
  cond (!x488)
    (
    .ok (1 : Int))
    (
    huff_Check.l1 K x487 K (0 : Int) (0 : Int))

def huff_New.l2 (K : Nat) (g1 : (List Int) → Int → Res ((Option T_huff_Table) × Int)) (lengths416 : List Int) (n_593 : Int) : Nat → (List Int) → Int → Res ((Option T_huff_Table) × Int)
  | 0, _, _ => .fail
  | k + 1, symbols625, v630 =>
    cond (decide (v630 < (lengths416.length : Int)))
      (
      chk (inb v630 lengths416.length) <|
      lt ((rd lengths416 v630)) fun (k_635 : Int) =>
      cond (k_635 == n_593)
        (
        chk (room (symbols625.length + ([v630] : List Int).length) 8) <|
        lt (symbols625 ++ ([v630] : List Int)) fun (zs646 : (List Int)) =>
        huff_New.l2 K g1 lengths416 n_593 k zs646 (w64 (v630 + (1 : Int))))
        (
        huff_New.l2 K g1 lengths416 n_593 k symbols625 (w64 (v630 + (1 : Int)))))
      (
      lt ((w64 (n_593 + (1 : Int)))) fun (n_633 : Int) =>
      g1 symbols625 n_633)

def huff_New.l1 (K : Nat) (lengths416 : List Int) (x516 : (List Int)) : Nat → (List Int) → Int → Res ((Option T_huff_Table) × Int)
  | 0, _, _ => .fail
  | k + 1, symbols588, n_593 =>
    cond (decide (n_593 ≤ (15 : Int)))
      (
      huff_New.l2 K (huff_New.l1 K lengths416 x516 k) lengths416 n_593 K symbols588 (0 : Int))
      (
      .ok ((some (T_huff_Table.mk x516 symbols588)), (0 : Int)))

def huff_New.m (K : Nat) (lengths416 : List Int) : Res ((Option T_huff_Table) × Int) :=
  (huff_Check.m K lengths416).bind fun x509 =>
  cond (x509 != (0 : Int))
    (
    .ok (none, x509))
    (
    (huff_count.m K lengths416).bind fun (x516, x517) =>
    huff_New.l1 K lengths416 x516 K ([] : List Int) (1 : Int))

def inflate_table.m (K : Nat) (l_411 : List Int) : Res (Option T_huff_Table) :=
  (huff_New.m K l_411).bind fun (x667, x669) =>
  (inflate_refuse.m K (x669 != (0 : Int)) (3 : Int)).bind fun _ =>
  .ok x667

def inflate_fixed.j2 (K : Nat) (g1 : (List Int) → Int → Res ((Option T_huff_Table) × (Option T_huff_Table))) (v348 : Int) (l_361 : (List Int)) : Res ((Option T_huff_Table) × (Option T_huff_Table)) :=
  cond ((decide (v348 ≥ (256 : Int))) && (decide (v348 < (280 : Int))))
    (
    lt (l_361.set (Int.toNat v348) (7 : Int)) fun (zs369 : (List Int)) =>
    g1 zs369 (w64 (v348 + (1 : Int))))
    (
    g1 l_361 (w64 (v348 + (1 : Int))))

def inflate_fixed.j5 (K : Nat) (l_372 : (List Int)) (d406 : (List Int)) : Res ((Option T_huff_Table) × (Option T_huff_Table)) :=
  (inflate_table.m K l_372).bind fun x676 =>
  (inflate_table.m K d406).bind fun x680 =>
  .ok (x676, x680)

def inflate_fixed.l4 (K : Nat) (l_372 : (List Int)) : Nat → (List Int) → Int → Res ((Option T_huff_Table) × (Option T_huff_Table))
  | 0, _, _ => .fail
  | k + 1, d393, v397 =>
    cond (decide (v397 < (32 : Int)))
      (
      chk (inb v397 32) <|
      lt (d393.set (Int.toNat v397) (5 : Int)) fun (zs403 : (List Int)) =>
      inflate_fixed.l4 K l_372 k zs403 (w64 (v397 + (1 : Int))))
      (
      inflate_fixed.j5 K l_372 d393)

def inflate_fixed.j3 (K : Nat)  (l_372 : (List Int)) : Res ((Option T_huff_Table) × (Option T_huff_Table)) :=
  inflate_fixed.l4 K l_372 K (List.replicate 32 (0 : Int)) (0 : Int)

def inflate_fixed.l1 (K : Nat)  : Nat → (List Int) → Int → Res ((Option T_huff_Table) × (Option T_huff_Table))
  | 0, _, _ => .fail
  | k + 1, l_344, v348 =>
    cond (decide (v348 < (288 : Int)))
      (
      chk (inb v348 288) <|
      lt (l_344.set (Int.toNat v348) (8 : Int)) fun (zs354 : (List Int)) =>
      cond ((decide (v348 ≥ (144 : Int))) && (decide (v348 < (256 : Int))))
        (
        lt (zs354.set (Int.toNat v348) (9 : Int)) fun (zs359 : (List Int)) =>
        inflate_fixed.j2 K (inflate_fixed.l1 K k) v348 zs359)
        (
        inflate_fixed.j2 K (inflate_fixed.l1 K k) v348 zs354))
      (
      inflate_fixed.j3 K l_344)

def inflate_fixed.m (K : Nat) : Res ((Option T_huff_Table) × (Option T_huff_Table)) :=
  inflate_fixed.l1 K K (List.replicate 288 (0 : Int)) (0 : Int)

def huff_Table_Next.j2 (K : Nat) (r780 : T_bits_Reader) (at_848 : Int) : Res (Int × Int × Int) :=
  .ok ((0 : Int), (3 : Int), r780.place_.at_)

def huff_Table_Next.l1 (K : Nat) (t771 : T_huff_Table) (r780 : T_bits_Reader) : Nat → Int → Int → Int → Int → Int → Res (Int × Int × Int)
  | 0, _, _, _, _, _ => .fail
  | k + 1, at_820, code823, first824, passed825, n_826 =>
    cond (decide (passed825 < (t771.symbols_.length : Int)))
      (
      (bits_Reader_Bits.m K (T_bits_Reader.mk (T_bits_place.mk at_820) r780.text_) (1 : Int)).bind fun (x829, x830, at_831) =>
      cond (x830 != (0 : Int))
        (
        .ok ((0 : Int), x830, r780.place_.at_))
        (
        lt ((ior .i64 (ishl .i64 code823 (1 : Int)) (wr .i64 x829))) fun (code837 : Int) =>
        lt ((ishl .i64 first824 (1 : Int))) fun (first838 : Int) =>
        chk (inb n_826 16) <|
        lt ((rd t771.counts_ n_826)) fun (k_840 : Int) =>
        cond (decide ((w64 (code837 - first838)) < k_840))
          (
          chk (inb (w64 ((w64 (passed825 + code837)) - first838)) t771.symbols_.length) <|
          lt ((rd t771.symbols_ (w64 ((w64 (passed825 + code837)) - first838)))) fun (v843 : Int) =>
          .ok (v843, (0 : Int), at_831))
          (
          lt ((w64 (first838 + k_840))) fun (first844 : Int) =>
          lt ((w64 (passed825 + k_840))) fun (passed845 : Int) =>
          lt ((w64 (n_826 + (1 : Int)))) fun (n_846 : Int) =>
          huff_Table_Next.l1 K t771 r780 k at_831 code837 first844 passed845 n_846)))
      (
      huff_Table_Next.j2 K r780 at_820)

def huff_Table_Next.m (K : Nat) (t771 : T_huff_Table) (r780 : T_bits_Reader) : Res (Int × Int × Int) :=
  huff_Table_Next.l1 K t771 r780 K r780.place_.at_ (0 : Int) (0 : Int) (0 : Int) (1 : Int)

def inflate_reader_symbol.m (K : Nat) (r751 : T_inflate_reader) (t762 : T_huff_Table) : Res (Int × Int) :=
  (huff_Table_Next.m K t762 r751.Reader_).bind fun (x859, x860, at_861) =>
  (inflate_must.m K x860).bind fun _ =>
  .ok (x859, at_861)

def inflate_reader_far.m (K : Nat) (r889 : T_inflate_reader) (x900 : T_inflate_run) : Res (Int × Int) :=
  (inflate_reader_number.m K r889 x900.bits_).bind fun (x904, at_905) =>
  lt ((w64 (x900.from_ + x904))) fun (v908 : Int) =>
  .ok (v908, at_905)

def inflate_reader_symbols.l2 (K : Nat) (g1 : Int → (List Int) → Res (Int × (List Int))) (x1019 : Int) (x1028 : Int) (at_1029 : Int) : Nat → (List Int) → Int → Res (Int × (List Int))
  | 0, _, _ => .fail
  | k + 1, out1059, v1064 =>
    cond (decide (v1064 < x1019))
      (
      chk (inb (w64 ((out1059.length : Int) - x1028)) out1059.length) <|
      chk (room (out1059.length + ([(rd out1059 (w64 ((out1059.length : Int) - x1028)))] : List Int).length) 1) <|
      lt (out1059 ++ ([(rd out1059 (w64 ((out1059.length : Int) - x1028)))] : List Int)) fun (zs1078 : (List Int)) =>
      inflate_reader_symbols.l2 K g1 x1019 x1028 at_1029 k zs1078 (w64 (v1064 + (1 : Int))))
      (
      g1 at_1029 out1059)

def inflate_reader_symbols.l1 (K : Nat) (r721 : T_inflate_reader) (literals732 : T_huff_Table) (back741 : T_huff_Table) : Nat → Int → (List Int) → Res (Int × (List Int))
  | 0, _, _ => .fail
  | k + 1, at_987, out992 =>
    (inflate_reader_symbol.m K (T_inflate_reader.mk (T_bits_Reader.mk (T_bits_place.mk at_987) r721.Reader_.text_) out992 r721.limit_) literals732).bind fun (x998, at_999) =>
    lt ((x998 == (256 : Int))) fun (v1002 : Bool) =>
    cond v1002
      (
      .ok (at_999, out992))
      (
      lt ((decide (x998 < (256 : Int)))) fun (v1004 : Bool) =>
      cond v1004
        (
        (inflate_refuse.m K ((out992.length : Int) == r721.limit_) (11 : Int)).bind fun _ =>
        chk (room (out992.length + ([(wr .u8 x998)] : List Int).length) 1) <|
        lt (out992 ++ ([(wr .u8 x998)] : List Int)) fun (zs1015 : (List Int)) =>
        inflate_reader_symbols.l1 K r721 literals732 back741 k at_999 zs1015)
        (
        (inflate_refuse.m K (decide (x998 ≥ (286 : Int))) (3 : Int)).bind fun _ =>
        chk (inb (w64 (x998 - (257 : Int))) 29) <|
        (inflate_reader_far.m K (T_inflate_reader.mk (T_bits_Reader.mk (T_bits_place.mk at_999) r721.Reader_.text_) out992 r721.limit_) (T_inflate_run.mk ((rd tab_inflate_lengths (w64 (x998 - (257 : Int)))).from_) ((rd tab_inflate_lengths (w64 (x998 - (257 : Int)))).bits_))).bind fun (x1019, at_1020) =>
        (inflate_reader_symbol.m K (T_inflate_reader.mk (T_bits_Reader.mk (T_bits_place.mk at_1020) r721.Reader_.text_) out992 r721.limit_) back741).bind fun (x1023, at_1024) =>
        (inflate_refuse.m K (decide (x1023 ≥ (30 : Int))) (3 : Int)).bind fun _ =>
        chk (inb x1023 30) <|
        (inflate_reader_far.m K (T_inflate_reader.mk (T_bits_Reader.mk (T_bits_place.mk at_1024) r721.Reader_.text_) out992 r721.limit_) (T_inflate_run.mk ((rd tab_inflate_distances x1023).from_) ((rd tab_inflate_distances x1023).bits_))).bind fun (x1028, at_1029) =>
        (inflate_refuse.m K (decide (x1028 > (out992.length : Int))) (3 : Int)).bind fun _ =>
        (inflate_refuse.m K (decide ((w64 ((out992.length : Int) + x1019)) > r721.limit_)) (11 : Int)).bind fun _ =>
        inflate_reader_symbols.l2 K (inflate_reader_symbols.l1 K r721 literals732 back741 k) x1019 x1028 at_1029 K out992 (0 : Int)))

def inflate_reader_symbols.m (K : Nat) (r721 : T_inflate_reader) (literals732 : T_huff_Table) (back741 : T_huff_Table) : Res (Int × (List Int)) :=
  inflate_reader_symbols.l1 K r721 literals732 back741 K r721.Reader_.place_.at_ r721.out_

def inflate_reader_row.l3 (K : Nat) (g1 : Int → (List Int) → Res ((List Int) × Int)) (at_1352 : Int) (value1355 : Int) (times1356 : Int) : Nat → (List Int) → Int → Res ((List Int) × Int)
  | 0, _, _ => .fail
  | k + 1, l_1379, v1382 =>
    cond (decide (v1382 < times1356))
      (
      chk (room (l_1379.length + ([value1355] : List Int).length) 8) <|
      lt (l_1379 ++ ([value1355] : List Int)) fun (zs1394 : (List Int)) =>
      inflate_reader_row.l3 K g1 at_1352 value1355 times1356 k zs1394 (w64 (v1382 + (1 : Int))))
      (
      g1 at_1352 l_1379)

def inflate_reader_row.j2 (K : Nat) (g1 : Int → (List Int) → Res ((List Int) × Int)) (n_1214 : Int) (l_1317 : (List Int)) (at_1352 : Int) (value1355 : Int) (times1356 : Int) : Res ((List Int) × Int) :=
  (inflate_refuse.m K (decide (times1356 > (w64 (n_1214 - (l_1317.length : Int))))) (3 : Int)).bind fun _ =>
  inflate_reader_row.l3 K (g1) at_1352 value1355 times1356 K l_1317 (0 : Int)

def inflate_reader_row.l1 (K : Nat) (r1203 : T_inflate_reader) (n_1214 : Int) (t1215 : T_huff_Table) : Nat → Int → (List Int) → Res ((List Int) × Int)
  | 0, _, _ => .fail
  | k + 1, at_1312, l_1317 =>
    cond (decide ((l_1317.length : Int) < n_1214))
      (
      (inflate_reader_symbol.m K (T_inflate_reader.mk (T_bits_Reader.mk (T_bits_place.mk at_1312) r1203.Reader_.text_) r1203.out_ r1203.limit_) t1215).bind fun (x1322, at_1323) =>
      lt ((decide (x1322 < (16 : Int)))) fun (v1326 : Bool) =>
      cond v1326
        (
        inflate_reader_row.j2 K (inflate_reader_row.l1 K r1203 n_1214 t1215 k) n_1214 l_1317 at_1323 x1322 (1 : Int))
        (
        lt ((x1322 == (16 : Int))) fun (v1328 : Bool) =>
        cond v1328
          (
          (inflate_refuse.m K ((l_1317.length : Int) == (0 : Int)) (3 : Int)).bind fun _ =>
          chk (inb (w64 ((l_1317.length : Int) - (1 : Int))) l_1317.length) <|
          (inflate_reader_number.m K (T_inflate_reader.mk (T_bits_Reader.mk (T_bits_place.mk at_1323) r1203.Reader_.text_) r1203.out_ r1203.limit_) (2 : Int)).bind fun (x1332, at_1333) =>
          lt ((rd l_1317 (w64 ((l_1317.length : Int) - (1 : Int))))) fun (value1336 : Int) =>
          lt ((w64 ((3 : Int) + x1332))) fun (times1338 : Int) =>
          inflate_reader_row.j2 K (inflate_reader_row.l1 K r1203 n_1214 t1215 k) n_1214 l_1317 at_1333 value1336 times1338)
          (
          lt ((x1322 == (17 : Int))) fun (v1340 : Bool) =>
          cond v1340
            (
            (inflate_reader_number.m K (T_inflate_reader.mk (T_bits_Reader.mk (T_bits_place.mk at_1323) r1203.Reader_.text_) r1203.out_ r1203.limit_) (3 : Int)).bind fun (x1342, at_1343) =>
            lt ((w64 ((3 : Int) + x1342))) fun (times1346 : Int) =>
            inflate_reader_row.j2 K (inflate_reader_row.l1 K r1203 n_1214 t1215 k) n_1214 l_1317 at_1343 (0 : Int) times1346)
            (
            (inflate_reader_number.m K (T_inflate_reader.mk (T_bits_Reader.mk (T_bits_place.mk at_1323) r1203.Reader_.text_) r1203.out_ r1203.limit_) (7 : Int)).bind fun (x1347, at_1348) =>
            lt ((w64 ((11 : Int) + x1347))) fun (times1351 : Int) =>
            inflate_reader_row.j2 K (inflate_reader_row.l1 K r1203 n_1214 t1215 k) n_1214 l_1317 at_1348 (0 : Int) times1351))))
      (
      .ok (l_1317, at_1312))

def inflate_reader_row.m (K : Nat) (r1203 : T_inflate_reader) (n_1214 : Int) (t1215 : T_huff_Table) : Res ((List Int) × Int) :=
  inflate_reader_row.l1 K r1203 n_1214 t1215 K r1203.Reader_.place_.at_ ([] : List Int)

def inflate_reader_dynamic.j2 (K : Nat) (r1105 : T_inflate_reader) (n_1124 : Int) (d1125 : Int) (at_1180 : Int) (l_1183 : (List Int)) : Res ((Option T_huff_Table) × (Option T_huff_Table) × Int) :=
  (inflate_refuse.m K (l_1183 == ([0, 0, 0, 0, 0, 0, 0, 0, 0, 0, 0, 0, 0, 0, 0, 0, 0, 0, 0] : List Int)) (3 : Int)).bind fun _ =>
  (inflate_table.m K l_1183).bind fun x1189 =>
  unw x1189 fun x1192 =>
  (inflate_reader_row.m K (T_inflate_reader.mk (T_bits_Reader.mk (T_bits_place.mk at_1180) r1105.Reader_.text_) r1105.out_ r1105.limit_) (w64 (n_1124 + d1125)) x1192).bind fun (x1407, at_1409) =>
  chk (inb (256 : Int) x1407.length) <|
  (inflate_refuse.m K ((rd x1407 (256 : Int)) == (0 : Int)) (3 : Int)).bind fun _ =>
  chk (subok (0 : Int) n_1124 x1407.length) <|
  lt (sub x1407 (0 : Int) n_1124) fun (zs1415 : (List Int)) =>
  chk (subok n_1124 (x1407.length : Int) x1407.length) <|
  lt (sub x1407 n_1124 (x1407.length : Int)) fun (zs1422 : (List Int)) =>
  (inflate_table.m K zs1415).bind fun x1429 =>
  (inflate_table.m K zs1422).bind fun x1433 =>
  .ok (x1429, x1433, at_1409)

def inflate_reader_dynamic.l1 (K : Nat) (r1105 : T_inflate_reader) (n_1124 : Int) (d1125 : Int) (some_1130 : Int) : Nat → Int → (List Int) → Int → Res ((Option T_huff_Table) × (Option T_huff_Table) × Int)
  | 0, _, _, _ => .fail
  | k + 1, at_1157, l_1160, v1164 =>
    cond (decide (v1164 < (19 : Int)))
      (
      chk (inb v1164 19) <|
      lt ((rd tab_inflate_order v1164)) fun (s1168 : Int) =>
      cond (decide (v1164 < some_1130))
        (
        (inflate_reader_number.m K (T_inflate_reader.mk (T_bits_Reader.mk (T_bits_place.mk at_1157) r1105.Reader_.text_) r1105.out_ r1105.limit_) (3 : Int)).bind fun (x1170, at_1171) =>
        chk (inb s1168 19) <|
        lt (l_1160.set (Int.toNat s1168) x1170) fun (zs1177 : (List Int)) =>
        inflate_reader_dynamic.l1 K r1105 n_1124 d1125 some_1130 k at_1171 zs1177 (w64 (v1164 + (1 : Int))))
        (
        inflate_reader_dynamic.l1 K r1105 n_1124 d1125 some_1130 k at_1157 l_1160 (w64 (v1164 + (1 : Int)))))
      (
      inflate_reader_dynamic.j2 K r1105 n_1124 d1125 at_1157 l_1160)

def inflate_reader_dynamic.m (K : Nat) (r1105 : T_inflate_reader) : Res ((Option T_huff_Table) × (Option T_huff_Table) × Int) :=
  (inflate_reader_number.m K r1105 (5 : Int)).bind fun (x1116, at_1117) =>
  (inflate_reader_number.m K (T_inflate_reader.mk (T_bits_Reader.mk (T_bits_place.mk at_1117) r1105.Reader_.text_) r1105.out_ r1105.limit_) (5 : Int)).bind fun (x1120, at_1121) =>
  lt ((w64 (x1116 + (257 : Int)))) fun (n_1124 : Int) =>
  lt ((w64 (x1120 + (1 : Int)))) fun (d1125 : Int) =>
  (inflate_reader_number.m K (T_inflate_reader.mk (T_bits_Reader.mk (T_bits_place.mk at_1121) r1105.Reader_.text_) r1105.out_ r1105.limit_) (4 : Int)).bind fun (x1126, at_1127) =>
  lt ((w64 (x1126 + (4 : Int)))) fun (some_1130 : Int) =>
  (inflate_refuse.m K ((decide (n_1124 > (286 : Int))) || (decide (d1125 > (30 : Int)))) (3 : Int)).bind fun _ =>
  inflate_reader_dynamic.l1 K r1105 n_1124 d1125 some_1130 K at_1127 (List.replicate 19 (0 : Int)) (0 : Int)

def inflate_reader_block.m (K : Nat) (r138 : T_inflate_reader) : Res (Bool × Int × (List Int)) :=
  (inflate_reader_number.m K r138 (1 : Int)).bind fun (x206, at_207) =>
  lt ((x206 == (1 : Int))) fun (last210 : Bool) =>
  (inflate_reader_number.m K (T_inflate_reader.mk (T_bits_Reader.mk (T_bits_place.mk at_207) r138.Reader_.text_) r138.out_ r138.limit_) (2 : Int)).bind fun (x211, at_212) =>
  lt ((x211 == (0 : Int))) fun (v215 : Bool) =>
  cond v215
    (
    (inflate_reader_stored.m K (T_inflate_reader.mk (T_bits_Reader.mk (T_bits_place.mk at_212) r138.Reader_.text_) r138.out_ r138.limit_)).bind fun (at_301, out305) =>
    .ok (last210, at_301, out305))
    (
    lt ((x211 == (1 : Int))) fun (v311 : Bool) =>
    cond v311
      (
      (inflate_fixed.m K).bind fun (x692, x695) =>
      unw x692 fun x699 =>
      unw x695 fun x710 =>
      (inflate_reader_symbols.m K (T_inflate_reader.mk (T_bits_Reader.mk (T_bits_place.mk at_212) r138.Reader_.text_) r138.out_ r138.limit_) x699 x710).bind fun (at_1093, out1097) =>
      .ok (last210, at_1093, out1097))
      (
      lt ((x211 == (2 : Int))) fun (v1103 : Bool) =>
      cond v1103
        (
        (inflate_reader_dynamic.m K (T_inflate_reader.mk (T_bits_Reader.mk (T_bits_place.mk at_212) r138.Reader_.text_) r138.out_ r138.limit_)).bind fun (x1448, x1451, at_1453) =>
        unw x1448 fun x1458 =>
        unw x1451 fun x1469 =>
        (inflate_reader_symbols.m K (T_inflate_reader.mk (T_bits_Reader.mk (T_bits_place.mk at_1453) r138.Reader_.text_) r138.out_ r138.limit_) x1458 x1469).bind fun (at_1480, out1484) =>
        .ok (last210, at_1480, out1484))
        (
        (inflate_refuse.m K true (3 : Int)).bind fun _ =>
        .ok (last210, at_212, r138.out_))))

def bits_Reader_At.m (K : Nat) (r1558 : T_bits_Reader) : Res Unit :=
  .ok ()

def inflate_Inflate.h1 (K : Nat)  (v114 : Value) : Res ((List UInt8) × Int × Int) :=
  unw (asE ty_inflate_failed .i64 v114) fun e112 =>
  .ok (([] : List UInt8), (0 : Int), e112)

def inflate_Inflate.j4 (K : Nat) (s91 : List UInt8) (at_1547 : Int) (out1552 : (List Int)) : Res ((List UInt8) × Int × Int) :=
  (bits_Reader_At.m K (T_bits_Reader.mk (T_bits_place.mk at_1547) s91)).bind fun _ =>
  .ok ((out1552.map tob), (iquo .i64 (w64 (at_1547 + (7 : Int))) (8 : Int)), (0 : Int))

def inflate_Inflate.l3 (K : Nat) (s91 : List UInt8) (limit92 : Int) : Nat → Int → (List Int) → Res ((List UInt8) × Int × Int)
  | 0, _, _ => .fail
  | k + 1, at_1523, out1528 =>
    (inflate_reader_block.m K (T_inflate_reader.mk (T_bits_Reader.mk (T_bits_place.mk at_1523) s91) out1528 limit92)).bind fun (x1534, at_1535, out1539) =>
    cond (!x1534)
      (
      inflate_Inflate.l3 K s91 limit92 k at_1535 out1539)
      (
      inflate_Inflate.j4 K s91 at_1535 out1539)

def inflate_Inflate.j2 (K : Nat) (s91 : List UInt8) (limit92 : Int) : Res ((List UInt8) × Int × Int) :=
  (bits_New.m K s91).bind fun _ =>
  inflate_Inflate.l3 K s91 limit92 K (0 : Int) ([] : List Int)

def inflate_Inflate.m (K : Nat) (s91 : List UInt8) (limit92 : Int) : Res ((List UInt8) × Int × Int) :=
  cond ((decide (limit92 < (0 : Int))) || (decide (limit92 > (1073741824 : Int))))
    (
    .ok (([] : List UInt8), (0 : Int), (1 : Int)))
    (
    (inflate_Inflate.j2 K s91 limit92).catch (inflate_Inflate.h1 K))

def sums_AdlerMore.j3 (K : Nat) (g1 : (List UInt8) → Int → Int → Res Int) (s1586 : List UInt8) (n_1591 : Int) (x1601 : Int) (y1602 : Int) : Res Int :=
  chk (subok n_1591 (s1586.length : Int) s1586.length) <|
  lt ((irem x1601 (65521 : Int))) fun (x1606 : Int) =>
  lt ((irem y1602 (65521 : Int))) fun (y1608 : Int) =>
  lt ((sub s1586 n_1591 (s1586.length : Int))) fun (s1610 : List UInt8) =>
  g1 s1610 x1606 y1608

def sums_AdlerMore.l2 (K : Nat) (g1 : (List UInt8) → Int → Int → Res Int) (s1586 : List UInt8) (n_1591 : Int) : Nat → Int → Int → Int → Res Int
  | 0, _, _, _ => .fail
  | k + 1, x1592, y1593, v1594 =>
    cond (decide (v1594 < n_1591))
      (
      chk (inb v1594 s1586.length) <|
      lt ((wr .u32 (x1592 + (wr .u32 ((rd s1586 v1594).toNat : Int))))) fun (x1598 : Int) =>
      lt ((wr .u32 (y1593 + x1598))) fun (y1599 : Int) =>
      sums_AdlerMore.l2 K g1 s1586 n_1591 k x1598 y1599 (w64 (v1594 + (1 : Int))))
      (
      sums_AdlerMore.j3 K (g1) s1586 n_1591 x1592 y1593)

def sums_AdlerMore.j4 (K : Nat)  (x1613 : Int) (y1614 : Int) : Res Int :=
  lt ((ior .u32 (ishl .u32 y1614 (16 : Int)) x1613)) fun (v1616 : Int) =>
  .ok v1616

def sums_AdlerMore.l1 (K : Nat)  : Nat → (List UInt8) → Int → Int → Res Int
  | 0, _, _, _ => .fail
  | k + 1, s1586, x1587, y1588 =>
    cond (decide ((s1586.length : Int) > (0 : Int)))
      (
      lt ((if (s1586.length : Int) < (5000 : Int) then (s1586.length : Int) else (5000 : Int))) fun (n_1591 : Int) =>
      sums_AdlerMore.l2 K (sums_AdlerMore.l1 K k) s1586 n_1591 K x1587 y1588 (0 : Int))
      (
      sums_AdlerMore.j4 K x1587 y1588)

def sums_AdlerMore.m (K : Nat) (a_1582 : Int) (s1583 : List UInt8) : Res Int :=
  lt ((irem (iand .u32 a_1582 (65535 : Int)) (65521 : Int))) fun (x1584 : Int) =>
  lt ((irem (ishr .u32 a_1582 (16 : Int)) (65521 : Int))) fun (y1585 : Int) =>
  sums_AdlerMore.l1 K K s1583 x1584 y1585

def sums_Adler.m (K : Nat) (s1581 : List UInt8) : Res Int :=
  (sums_AdlerMore.m K (1 : Int) s1581).bind fun x1618 =>
  .ok x1618

def zlib_Unzip.m (K : Nat) (s4 : List UInt8) (limit5 : Int) : Res ((List UInt8) × Int × Int) :=
  cond ((decide (limit5 < (0 : Int))) || (decide (limit5 > (1073741824 : Int))))
    (
    .ok (([] : List UInt8), (0 : Int), (1 : Int)))
    (
    (win_Of.m K s4).bind fun _ =>
    (win_Window_Uint_true.m K (T_win_Window.mk s4 (0 : Int)) (0 : Int) (2 : Int)).bind fun (x86, x87) =>
    cond (x87 != (0 : Int))
      (
      .ok (([] : List UInt8), (0 : Int), x87))
      (
      cond (((((iand .u64 (ishr .u64 x86 (8 : Int)) (15 : Int)) != (8 : Int)) || (decide ((ishr .u64 x86 (12 : Int)) > (7 : Int)))) || ((irem x86 (31 : Int)) != (0 : Int))) || ((iand .u64 x86 (32 : Int)) != (0 : Int)))
        (
        .ok (([] : List UInt8), (0 : Int), (3 : Int)))
        (
        chk (subok (2 : Int) (s4.length : Int) s4.length) <|
        (inflate_Inflate.m K (sub s4 (2 : Int) (s4.length : Int)) limit5).bind fun (x1572, x1573, x1574) =>
        cond (x1574 != (0 : Int))
          (
          .ok (([] : List UInt8), (0 : Int), x1574))
          (
          lt ((w64 (x1573 + (2 : Int)))) fun (used1576 : Int) =>
          (win_Of.m K s4).bind fun _ =>
          (win_Window_Uint_true.m K (T_win_Window.mk s4 (0 : Int)) used1576 (4 : Int)).bind fun (x1577, x1578) =>
          lt ((x1578 != (0 : Int))) fun (v1579 : Bool) =>
          cond v1579
            (
            .ok (([] : List UInt8), (0 : Int), x1578))
            (
            (sums_Adler.m K x1572).bind fun x1620 =>
            lt (((wr .u32 x1577) != x1620)) fun (v1621 : Bool) =>
            cond v1621
              (
              .ok (([] : List UInt8), (0 : Int), (4 : Int)))
              (
              lt ((w64 (used1576 + (4 : Int)))) fun (v1623 : Int) =>
              .ok (x1572, v1623, (0 : Int))))))))

def mortiselaw10_live.m (K : Nat) : Res Bool :=
  (zlib_Unzip.m K ([120, 156, 3, 0, 0, 0, 0, 1, 122] : List UInt8) (0 : Int)).bind fun (x1627, x1628, x1629) =>
  (zlib_Unzip.m K ([120, 156, 3, 0, 0, 0, 0, 2] : List UInt8) (0 : Int)).bind fun (x1630, x1631, x1632) =>
  (zlib_Unzip.m K ([120, 157] : List UInt8) (0 : Int)).bind fun (x1633, x1634, x1635) =>
  lt ((((((x1627 == ([] : List UInt8)) && (x1628 == (8 : Int))) && (x1629 == (0 : Int))) && (x1632 == (4 : Int))) && (x1635 == (3 : Int)))) fun (v1636 : Bool) =>
  .ok v1636

def mortiseref05_Reader_Bits.j2 (K : Nat) (r1688 : T_mortiseref05_Reader) (n_1692 : Int) (v1707 : Int) : Res (Int × Int × Int) :=
  .ok (v1707, (0 : Int), (w64 (r1688.At_ + n_1692)))

def mortiseref05_Reader_Bits.l1 (K : Nat) (r1688 : T_mortiseref05_Reader) (n_1692 : Int) : Nat → Int → Int → Res (Int × Int × Int)
  | 0, _, _ => .fail
  | k + 1, v1695, i1696 =>
    cond (decide (i1696 < n_1692))
      (
      lt ((w64 (r1688.At_ + i1696))) fun (k_1699 : Int) =>
      chk (inb (iquo .i64 k_1699 (8 : Int)) r1688.S_.length) <|
      chk (decide (0 ≤ (wr .u64 (irem k_1699 (8 : Int))))) <|
      lt ((irem (ishr .u32 (wr .u32 ((rd r1688.S_ (iquo .i64 k_1699 (8 : Int))).toNat : Int)) (wr .u64 (irem k_1699 (8 : Int)))) (2 : Int))) fun (b_1702 : Int) =>
      chk (decide (0 ≤ (wr .u64 i1696))) <|
      lt ((wr .u32 (v1695 + (ishl .u32 b_1702 (wr .u64 i1696))))) fun (v1704 : Int) =>
      lt ((w64 (i1696 + (1 : Int)))) fun (i1705 : Int) =>
      mortiseref05_Reader_Bits.l1 K r1688 n_1692 k v1704 i1705)
      (
      mortiseref05_Reader_Bits.j2 K r1688 n_1692 v1695)

def mortiseref05_Reader_Bits.m (K : Nat) (r1688 : T_mortiseref05_Reader) (n_1692 : Int) : Res (Int × Int × Int) :=
  cond ((decide (n_1692 < (0 : Int))) || (decide (n_1692 > (32 : Int))))
    (
    .ok ((0 : Int), (1 : Int), r1688.At_))
    (
    cond (decide (n_1692 > (w64 ((w64 ((8 : Int) * (r1688.S_.length : Int))) - r1688.At_))))
      (
      .ok ((0 : Int), (2 : Int), r1688.At_))
      (
      mortiseref05_Reader_Bits.l1 K r1688 n_1692 K (0 : Int) (0 : Int)))

def mortiseref07_state_bits.m (K : Nat) (s1675 : T_mortiseref07_state) (n_1686 : Int) (from_1687 : Int) : Res (Int × Int × Int) :=
  (mortiseref05_Reader_Bits.m K s1675.r_ n_1686).bind fun (x1716, x1717, at_1718) =>
  lt ((w64 (from_1687 + (wr .i64 x1716)))) fun (v1721 : Int) =>
  .ok (v1721, x1717, at_1718)

def mortiseref05_Reader_Align.l1 (K : Nat)  : Nat → Int → Res Int
  | 0, _ => .fail
  | k + 1, at_1769 =>
    cond ((irem at_1769 (8 : Int)) != (0 : Int))
      (
      mortiseref05_Reader_Align.l1 K k (w64 (at_1769 + (1 : Int))))
      (
      .ok at_1769)

def mortiseref05_Reader_Align.m (K : Nat) (r1758 : T_mortiseref05_Reader) : Res Int :=
  mortiseref05_Reader_Align.l1 K K r1758.At_

def mortiseref05_Reader_Bytes.m (K : Nat) (r1752 : T_mortiseref05_Reader) (n_1756 : Int) : Res ((List UInt8) × Int × Int) :=
  cond (decide (n_1756 < (0 : Int)))
    (
    .ok (([] : List UInt8), (1 : Int), r1752.At_))
    (
    (mortiseref05_Reader_Align.m K r1752).bind fun at_1780 =>
    lt ((iquo .i64 at_1780 (8 : Int))) fun (at_1783 : Int) =>
    cond (decide (n_1756 > (w64 ((r1752.S_.length : Int) - at_1783))))
      (
      .ok (([] : List UInt8), (2 : Int), at_1780))
      (
      chk (subok at_1783 (w64 (at_1783 + n_1756)) r1752.S_.length) <|
      lt ((sub r1752.S_ at_1783 (w64 (at_1783 + n_1756)))) fun (v1788 : List UInt8) =>
      .ok (v1788, (0 : Int), (w64 (at_1780 + (w64 ((8 : Int) * n_1756)))))))

def mortiseref07_state_stored.m (K : Nat) (s1741 : T_mortiseref07_state) : Res (Int × Int × (List Int)) :=
  (mortiseref05_Reader_Bytes.m K s1741.r_ (4 : Int)).bind fun (x1794, x1795, at_1796) =>
  cond (x1795 != (0 : Int))
    (
    .ok (x1795, at_1796, s1741.out_))
    (
    chk (inb (0 : Int) x1794.length) <|
    chk (inb (1 : Int) x1794.length) <|
    lt ((w64 ((wr .i64 ((rd x1794 (0 : Int)).toNat : Int)) + (w64 ((256 : Int) * (wr .i64 ((rd x1794 (1 : Int)).toNat : Int))))))) fun (n_1804 : Int) =>
    chk (inb (2 : Int) x1794.length) <|
    chk (inb (3 : Int) x1794.length) <|
    cond ((w64 ((wr .i64 ((rd x1794 (2 : Int)).toNat : Int)) + (w64 ((256 : Int) * (wr .i64 ((rd x1794 (3 : Int)).toNat : Int)))))) != (w64 ((65535 : Int) - n_1804)))
      (
      .ok ((3 : Int), at_1796, s1741.out_))
      (
      (mortiseref05_Reader_Bytes.m K (T_mortiseref05_Reader.mk s1741.r_.S_ at_1796) n_1804).bind fun (x1811, x1812, at_1813) =>
      cond (x1812 != (0 : Int))
        (
        .ok (x1812, at_1813, s1741.out_))
        (
        cond (decide (n_1804 > (w64 (s1741.limit_ - (s1741.out_.length : Int)))))
          (
          .ok ((11 : Int), at_1813, s1741.out_))
          (
          chk (room (s1741.out_.length + x1811.length) 1) <|
          lt (s1741.out_ ++ x1811.map ofb) fun (zs1823 : (List Int)) =>
          .ok ((0 : Int), at_1813, zs1823)))))

def mortiseref07_Fixed.l3 (K : Nat) (l_1919 : (List Int)) : Nat → (List Int) → Int → Res ((List Int) × (List Int))
  | 0, _, _ => .fail
  | k + 1, d1942, i1945 =>
    cond (decide (i1945 < (32 : Int)))
      (
      chk (inb i1945 d1942.length) <|
      lt (d1942.set (Int.toNat i1945) (5 : Int)) fun (zs1951 : (List Int)) =>
      lt ((w64 (i1945 + (1 : Int)))) fun (i1953 : Int) =>
      mortiseref07_Fixed.l3 K l_1919 k zs1951 i1953)
      (
      .ok (l_1919, d1942))

def mortiseref07_Fixed.j2 (K : Nat)  (l_1919 : (List Int)) : Res ((List Int) × (List Int)) :=
  chk (decide (0 ≤ (32 : Int)) && room (Int.toNat (32 : Int)) 8) <|
  lt (List.replicate (Int.toNat (32 : Int)) (0 : Int)) fun (zs1928 : (List Int)) =>
  mortiseref07_Fixed.l3 K l_1919 K zs1928 (0 : Int)

def mortiseref07_Fixed.l1 (K : Nat)  : Nat → (List Int) → Int → Res ((List Int) × (List Int))
  | 0, _, _ => .fail
  | k + 1, l_1890, i1893 =>
    cond (decide (i1893 < (288 : Int)))
      (
      lt (((decide (i1893 < (144 : Int))) || (decide (i1893 > (279 : Int))))) fun (v1896 : Bool) =>
      cond v1896
        (
        chk (inb i1893 l_1890.length) <|
        lt (l_1890.set (Int.toNat i1893) (8 : Int)) fun (zs1901 : (List Int)) =>
        lt ((w64 (i1893 + (1 : Int)))) fun (i1903 : Int) =>
        mortiseref07_Fixed.l1 K k zs1901 i1903)
        (
        lt ((decide (i1893 < (256 : Int)))) fun (v1904 : Bool) =>
        cond v1904
          (
          chk (inb i1893 l_1890.length) <|
          lt (l_1890.set (Int.toNat i1893) (9 : Int)) fun (zs1909 : (List Int)) =>
          lt ((w64 (i1893 + (1 : Int)))) fun (i1911 : Int) =>
          mortiseref07_Fixed.l1 K k zs1909 i1911)
          (
          chk (inb i1893 l_1890.length) <|
          lt (l_1890.set (Int.toNat i1893) (7 : Int)) fun (zs1915 : (List Int)) =>
          lt ((w64 (i1893 + (1 : Int)))) fun (i1917 : Int) =>
          mortiseref07_Fixed.l1 K k zs1915 i1917)))
      (
      mortiseref07_Fixed.j2 K l_1890)

def mortiseref07_Fixed.m (K : Nat) : Res ((List Int) × (List Int)) :=
  chk (decide (0 ≤ (288 : Int)) && room (Int.toNat (288 : Int)) 8) <|
  lt (List.replicate (Int.toNat (288 : Int)) (0 : Int)) fun (zs1860 : (List Int)) =>
  mortiseref07_Fixed.l1 K K zs1860 (0 : Int)

def mortiseref06_Check.j4 (K : Nat) (sum2016 : Int) (v2024 : Bool) : Res Int :=
  cond (v2024 || (sum2016 == (32768 : Int)))
    (
    .ok (0 : Int))
    (
    .ok (3 : Int))

def mortiseref06_Check.j3 (K : Nat) (sum2016 : Int) (v2022 : Bool) : Res Int :=
  mortiseref06_Check.j4 K sum2016 v2022

def mortiseref06_Check.j2 (K : Nat)  (sum2016 : Int) (n_2017 : Int) (last2018 : Int) : Res Int :=
  cond (n_2017 == (0 : Int))
    (
    mortiseref06_Check.j4 K sum2016 true)
    (
    cond (n_2017 == (1 : Int))
      (
      mortiseref06_Check.j3 K sum2016 (last2018 == (1 : Int)))
      (
      mortiseref06_Check.j3 K sum2016 false))

def mortiseref06_Check.l1 (K : Nat) (l_1994 : List Int) : Nat → Int → Int → Int → Int → Res Int
  | 0, _, _, _, _ => .fail
  | k + 1, sum2000, n_2001, last2002, i2003 =>
    cond (decide (i2003 < (l_1994.length : Int)))
      (
      chk (inb i2003 l_1994.length) <|
      cond ((decide ((rd l_1994 i2003) < (0 : Int))) || (decide ((rd l_1994 i2003) > (15 : Int))))
        (
        .ok (1 : Int))
        (
        cond (decide ((rd l_1994 i2003) > (0 : Int)))
          (
          chk (decide (0 ≤ (wr .u64 (w64 ((15 : Int) - (rd l_1994 i2003)))))) <|
          lt ((w64 (sum2000 + (ishl .i64 (1 : Int) (wr .u64 (w64 ((15 : Int) - (rd l_1994 i2003)))))))) fun (sum2010 : Int) =>
          lt ((w64 (n_2001 + (1 : Int)))) fun (n_2011 : Int) =>
          lt ((rd l_1994 i2003)) fun (last2012 : Int) =>
          lt ((w64 (i2003 + (1 : Int)))) fun (i2013 : Int) =>
          mortiseref06_Check.l1 K l_1994 k sum2010 n_2011 last2012 i2013)
          (
          lt ((w64 (i2003 + (1 : Int)))) fun (i2014 : Int) =>
          mortiseref06_Check.l1 K l_1994 k sum2000 n_2001 last2002 i2014)))
      (
      mortiseref06_Check.j2 K sum2000 n_2001 last2002)

def mortiseref06_Check.m (K : Nat) (l_1994 : List Int) : Res Int :=
  cond (decide ((l_1994.length : Int) > (320 : Int)))
    (
    .ok (1 : Int))
    (
    mortiseref06_Check.l1 K l_1994 K (0 : Int) (0 : Int) (0 : Int) (0 : Int))

def mortiseref06_Codes.l2 (K : Nat) (g1 : (List Int) → Int → Int → Res ((List Int) × Int)) (l_1987 : List Int) (length2091 : Int) : Nat → (List Int) → Int → Int → Res ((List Int) × Int)
  | 0, _, _, _ => .fail
  | k + 1, out2115, code2118, i2119 =>
    cond (decide (i2119 < (l_1987.length : Int)))
      (
      chk (inb i2119 l_1987.length) <|
      cond ((rd l_1987 i2119) == length2091)
        (
        chk (inb i2119 out2115.length) <|
        lt (out2115.set (Int.toNat i2119) code2118) fun (zs2128 : (List Int)) =>
        lt ((w64 (code2118 + (1 : Int)))) fun (code2130 : Int) =>
        lt ((w64 (i2119 + (1 : Int)))) fun (i2131 : Int) =>
        mortiseref06_Codes.l2 K g1 l_1987 length2091 k zs2128 code2130 i2131)
        (
        lt ((w64 (i2119 + (1 : Int)))) fun (i2132 : Int) =>
        mortiseref06_Codes.l2 K g1 l_1987 length2091 k out2115 code2118 i2132))
      (
      lt ((w64 (length2091 + (1 : Int)))) fun (length2122 : Int) =>
      g1 out2115 code2118 length2122)

def mortiseref06_Codes.l1 (K : Nat) (l_1987 : List Int) : Nat → (List Int) → Int → Int → Res ((List Int) × Int)
  | 0, _, _, _ => .fail
  | k + 1, out2087, code2090, length2091 =>
    cond (decide (length2091 ≤ (15 : Int)))
      (
      lt ((w64 (code2090 * (2 : Int)))) fun (code2094 : Int) =>
      mortiseref06_Codes.l2 K (mortiseref06_Codes.l1 K l_1987 k) l_1987 length2091 K out2087 code2094 (0 : Int))
      (
      .ok (out2087, (0 : Int)))

def mortiseref06_Codes.m (K : Nat) (l_1987 : List Int) : Res ((List Int) × Int) :=
  (mortiseref06_Check.m K l_1987).bind fun x2028 =>
  cond (x2028 != (0 : Int))
    (
    .ok (([] : List Int), x2028))
    (
    chk (decide (0 ≤ (l_1987.length : Int)) && room (Int.toNat (l_1987.length : Int)) 8) <|
    lt (List.replicate (Int.toNat (l_1987.length : Int)) (0 : Int)) fun (zs2037 : (List Int)) =>
    mortiseref06_Codes.l1 K l_1987 K zs2037 (0 : Int) (1 : Int))

def mortiseref07_coded.m (K : Nat) (l_1975 : List Int) : Res ((List Int) × Bool) :=
  (mortiseref06_Codes.m K l_1975).bind fun (x2143, x2145) =>
  lt ((x2145 == (0 : Int))) fun (v2149 : Bool) =>
  .ok (x2143, v2149)

def mortiseref06_Next.j3 (K : Nat) (g1 : Int → Int → Int → Res (Int × Int × Int)) (r2232 : T_mortiseref05_Reader) (at_2281 : Int) (v2284 : Int) (length2285 : Int) (begins2309 : Bool) : Res (Int × Int × Int) :=
  cond (!begins2309)
    (
    .ok ((0 : Int), (3 : Int), r2232.At_))
    (
    (mortiseref05_Reader_Bits.m K (T_mortiseref05_Reader.mk r2232.S_ at_2281) (1 : Int)).bind fun (x2314, x2315, at_2316) =>
    cond (x2315 != (0 : Int))
      (
      .ok ((0 : Int), x2315, r2232.At_))
      (
      lt ((w64 ((w64 ((2 : Int) * v2284)) + (wr .i64 x2314)))) fun (v2322 : Int) =>
      lt ((w64 (length2285 + (1 : Int)))) fun (length2323 : Int) =>
      g1 at_2316 v2322 length2323))

def mortiseref06_Next.l2 (K : Nat) (g1 : Int → Int → Int → Res (Int × Int × Int)) (l_2222 : List Int) (codes2227 : List Int) (r2232 : T_mortiseref05_Reader) (at_2281 : Int) (v2284 : Int) (length2285 : Int) : Nat → Bool → Int → Res (Int × Int × Int)
  | 0, _, _ => .fail
  | k + 1, begins2288, i2289 =>
    cond (decide (i2289 < (l_2222.length : Int)))
      (
      chk (inb i2289 l_2222.length) <|
      chk (imp true (((rd l_2222 i2289) == length2285) && (decide (length2285 > (0 : Int)))) (inb i2289 codes2227.length)) <|
      cond ((((rd l_2222 i2289) == length2285) && (decide (length2285 > (0 : Int)))) && ((rd codes2227 i2289) == v2284))
        (
        .ok (i2289, (0 : Int), at_2281))
        (
        cond begins2288
          (
          lt ((w64 (i2289 + (1 : Int)))) fun (i2298 : Int) =>
          mortiseref06_Next.l2 K g1 l_2222 codes2227 r2232 at_2281 v2284 length2285 k true i2298)
          (
          cond (decide ((rd l_2222 i2289) > length2285))
            (
            chk (inb i2289 codes2227.length) <|
            chk (decide (0 ≤ (wr .u64 (w64 ((rd l_2222 i2289) - length2285))))) <|
            lt (((ishr .i64 (rd codes2227 i2289) (wr .u64 (w64 ((rd l_2222 i2289) - length2285)))) == v2284)) fun (begins2304 : Bool) =>
            lt ((w64 (i2289 + (1 : Int)))) fun (i2306 : Int) =>
            mortiseref06_Next.l2 K g1 l_2222 codes2227 r2232 at_2281 v2284 length2285 k begins2304 i2306)
            (
            lt ((w64 (i2289 + (1 : Int)))) fun (i2307 : Int) =>
            mortiseref06_Next.l2 K g1 l_2222 codes2227 r2232 at_2281 v2284 length2285 k false i2307))))
      (
      mortiseref06_Next.j3 K (g1) r2232 at_2281 v2284 length2285 begins2288)

def mortiseref06_Next.j4 (K : Nat) (r2232 : T_mortiseref05_Reader) (at_2325 : Int) : Res (Int × Int × Int) :=
  .ok ((0 : Int), (3 : Int), r2232.At_)

def mortiseref06_Next.l1 (K : Nat) (l_2222 : List Int) (codes2227 : List Int) (r2232 : T_mortiseref05_Reader) : Nat → Int → Int → Int → Res (Int × Int × Int)
  | 0, _, _, _ => .fail
  | k + 1, at_2281, v2284, length2285 =>
    cond (decide (length2285 ≤ (15 : Int)))
      (
      mortiseref06_Next.l2 K (mortiseref06_Next.l1 K l_2222 codes2227 r2232 k) l_2222 codes2227 r2232 at_2281 v2284 length2285 K false (0 : Int))
      (
      mortiseref06_Next.j4 K r2232 at_2281)

def mortiseref06_Next.m (K : Nat) (l_2222 : List Int) (codes2227 : List Int) (r2232 : T_mortiseref05_Reader) : Res (Int × Int × Int) :=
  mortiseref06_Next.l1 K l_2222 codes2227 r2232 K r2232.At_ (0 : Int) (0 : Int)

def mortiseref07_Length.m (K : Nat) (symbol2382 : Int) : Res (Int × Int) :=
  cond (symbol2382 == (285 : Int))
    (
    .ok ((258 : Int), (0 : Int)))
    (
    lt ((w64 (symbol2382 - (257 : Int)))) fun (k_2384 : Int) =>
    cond (decide (k_2384 < (8 : Int)))
      (
      lt ((w64 ((3 : Int) + k_2384))) fun (v2386 : Int) =>
      .ok (v2386, (0 : Int)))
      (
      lt ((w64 ((iquo .i64 k_2384 (4 : Int)) - (1 : Int)))) fun (more2387 : Int) =>
      chk (decide (0 ≤ (wr .u64 more2387))) <|
      lt ((w64 ((3 : Int) + (ishl .i64 (w64 ((4 : Int) + (irem k_2384 (4 : Int)))) (wr .u64 more2387))))) fun (v2389 : Int) =>
      .ok (v2389, more2387)))

def mortiseref07_Distance.m (K : Nat) (symbol2407 : Int) : Res (Int × Int) :=
  cond (decide (symbol2407 < (4 : Int)))
    (
    lt ((w64 ((1 : Int) + symbol2407))) fun (v2409 : Int) =>
    .ok (v2409, (0 : Int)))
    (
    lt ((w64 ((iquo .i64 symbol2407 (2 : Int)) - (1 : Int)))) fun (more2410 : Int) =>
    chk (decide (0 ≤ (wr .u64 more2410))) <|
    lt ((w64 ((1 : Int) + (ishl .i64 (w64 ((2 : Int) + (irem symbol2407 (2 : Int)))) (wr .u64 more2410))))) fun (v2412 : Int) =>
    .ok (v2412, more2410))

def mortiseref07_state_match.l1 (K : Nat) (x2394 : Int) (x2417 : Int) (at_2419 : Int) : Nat → (List Int) → Int → Res (Int × Int × (List Int))
  | 0, _, _ => .fail
  | k + 1, out2453, i2458 =>
    cond (decide (i2458 < x2394))
      (
      chk (inb (w64 ((out2453.length : Int) - x2417)) out2453.length) <|
      chk (room (out2453.length + ([(rd out2453 (w64 ((out2453.length : Int) - x2417)))] : List Int).length) 1) <|
      lt (out2453 ++ ([(rd out2453 (w64 ((out2453.length : Int) - x2417)))] : List Int)) fun (zs2472 : (List Int)) =>
      lt ((w64 (i2458 + (1 : Int)))) fun (i2475 : Int) =>
      mortiseref07_state_match.l1 K x2394 x2417 at_2419 k zs2472 i2475)
      (
      .ok ((0 : Int), at_2419, out2453))

def mortiseref07_state_match.m (K : Nat) (s2357 : T_mortiseref07_state) (symbol2368 : Int) (distances2369 : T_mortiseref07_code) : Res (Int × Int × (List Int)) :=
  cond (decide (symbol2368 > (285 : Int)))
    (
    .ok ((3 : Int), s2357.r_.At_, s2357.out_))
    (
    (mortiseref07_Length.m K symbol2368).bind fun (x2392, x2393) =>
    (mortiseref07_state_bits.m K s2357 x2393 x2392).bind fun (x2394, x2395, at_2396) =>
    cond (x2395 != (0 : Int))
      (
      .ok (x2395, at_2396, s2357.out_))
      (
      (mortiseref06_Next.m K distances2369.l_ distances2369.codes_ (T_mortiseref05_Reader.mk s2357.r_.S_ at_2396)).bind fun (x2400, x2401, at_2402) =>
      cond (x2401 != (0 : Int))
        (
        .ok (x2401, at_2402, s2357.out_))
        (
        cond (decide (x2400 > (29 : Int)))
          (
          .ok ((3 : Int), at_2402, s2357.out_))
          (
          (mortiseref07_Distance.m K x2400).bind fun (x2415, x2416) =>
          (mortiseref07_state_bits.m K (T_mortiseref07_state.mk (T_mortiseref05_Reader.mk s2357.r_.S_ at_2402) s2357.out_ s2357.limit_) x2416 x2415).bind fun (x2417, x2418, at_2419) =>
          cond (x2418 != (0 : Int))
            (
            .ok (x2418, at_2419, s2357.out_))
            (
            cond (decide (x2417 > (s2357.out_.length : Int)))
              (
              .ok ((3 : Int), at_2419, s2357.out_))
              (
              cond (decide (x2394 > (w64 (s2357.limit_ - (s2357.out_.length : Int)))))
                (
                .ok ((11 : Int), at_2419, s2357.out_))
                (
                mortiseref07_state_match.l1 K x2394 x2417 at_2419 K s2357.out_ (0 : Int))))))))

def mortiseref07_state_symbols.l1 (K : Nat) (s2186 : T_mortiseref07_state) (literals2197 : T_mortiseref07_code) (distances2206 : T_mortiseref07_code) : Nat → Int → (List Int) → Res (Int × Int × (List Int))
  | 0, _, _ => .fail
  | k + 1, at_2510, out2515 =>
    (mortiseref06_Next.m K literals2197.l_ literals2197.codes_ (T_mortiseref05_Reader.mk s2186.r_.S_ at_2510)).bind fun (x2521, x2522, at_2523) =>
    cond (x2522 != (0 : Int))
      (
      .ok (x2522, at_2523, out2515))
      (
      cond (x2521 == (256 : Int))
        (
        .ok ((0 : Int), at_2523, out2515))
        (
        cond (decide (x2521 < (256 : Int)))
          (
          cond (decide ((out2515.length : Int) ≥ s2186.limit_))
            (
            .ok ((11 : Int), at_2523, out2515))
            (
            chk (room (out2515.length + ([(wr .u8 x2521)] : List Int).length) 1) <|
            lt (out2515 ++ ([(wr .u8 x2521)] : List Int)) fun (zs2539 : (List Int)) =>
            mortiseref07_state_symbols.l1 K s2186 literals2197 distances2206 k at_2523 zs2539))
          (
          (mortiseref07_state_match.m K (T_mortiseref07_state.mk (T_mortiseref05_Reader.mk s2186.r_.S_ at_2523) out2515 s2186.limit_) x2521 distances2206).bind fun (x2542, at_2543, out2547) =>
          cond (x2542 != (0 : Int))
            (
            .ok (x2542, at_2543, out2547))
            (
            mortiseref07_state_symbols.l1 K s2186 literals2197 distances2206 k at_2543 out2547))))

def mortiseref07_state_symbols.m (K : Nat) (s2186 : T_mortiseref07_state) (literals2197 : T_mortiseref07_code) (distances2206 : T_mortiseref07_code) : Res (Int × Int × (List Int)) :=
  mortiseref07_state_symbols.l1 K s2186 literals2197 distances2206 K s2186.r_.At_ s2186.out_

def mortiseref07_Order.m (K : Nat) : Res Unit :=
  .ok ()

def mortiseref07_state_head.j2 (K : Nat) (x2609 : Int) (x2621 : Int) (at_2735 : Int) (l_2738 : (List Int)) (any2741 : Bool) : Res (Int × Int × (List Int) × (List Int) × Int × Int) :=
  (mortiseref07_coded.m K l_2738).bind fun (codes2745, x2747) =>
  cond ((!x2747) || (!any2741))
    (
    .ok ((0 : Int), (0 : Int), ([] : List Int), ([] : List Int), (3 : Int), at_2735))
    (
    .ok (x2609, x2621, l_2738, codes2745, (0 : Int), at_2735))

def mortiseref07_state_head.l1 (K : Nat) (s2591 : T_mortiseref07_state) (x2609 : Int) (x2621 : Int) (x2633 : Int) : Nat → Int → (List Int) → Bool → Int → Res (Int × Int × (List Int) × (List Int) × Int × Int)
  | 0, _, _, _, _ => .fail
  | k + 1, at_2704, l_2707, any2710, i2711 =>
    cond (decide (i2711 < x2633))
      (
      (mortiseref07_state_bits.m K (T_mortiseref07_state.mk (T_mortiseref05_Reader.mk s2591.r_.S_ at_2704) s2591.out_ s2591.limit_) (3 : Int) (0 : Int)).bind fun (x2714, x2715, at_2716) =>
      cond (x2715 != (0 : Int))
        (
        .ok ((0 : Int), (0 : Int), ([] : List Int), ([] : List Int), x2715, at_2716))
        (
        chk (inb i2711 ([(16 : Int), (17 : Int), (18 : Int), (0 : Int), (8 : Int), (7 : Int), (9 : Int), (6 : Int), (10 : Int), (5 : Int), (11 : Int), (4 : Int), (12 : Int), (3 : Int), (13 : Int), (2 : Int), (14 : Int), (1 : Int), (15 : Int)] : List Int).length) <|
        chk (inb (rd ([(16 : Int), (17 : Int), (18 : Int), (0 : Int), (8 : Int), (7 : Int), (9 : Int), (6 : Int), (10 : Int), (5 : Int), (11 : Int), (4 : Int), (12 : Int), (3 : Int), (13 : Int), (2 : Int), (14 : Int), (1 : Int), (15 : Int)] : List Int) i2711) l_2707.length) <|
        lt (l_2707.set (Int.toNat (rd ([(16 : Int), (17 : Int), (18 : Int), (0 : Int), (8 : Int), (7 : Int), (9 : Int), (6 : Int), (10 : Int), (5 : Int), (11 : Int), (4 : Int), (12 : Int), (3 : Int), (13 : Int), (2 : Int), (14 : Int), (1 : Int), (15 : Int)] : List Int) i2711)) x2714) fun (zs2730 : (List Int)) =>
        lt ((any2710 || (decide (x2714 > (0 : Int))))) fun (any2732 : Bool) =>
        lt ((w64 (i2711 + (1 : Int)))) fun (i2733 : Int) =>
        mortiseref07_state_head.l1 K s2591 x2609 x2621 x2633 k at_2716 zs2730 any2732 i2733))
      (
      mortiseref07_state_head.j2 K x2609 x2621 at_2704 l_2707 any2710)

def mortiseref07_state_head.m (K : Nat) (s2591 : T_mortiseref07_state) : Res (Int × Int × (List Int) × (List Int) × Int × Int) :=
  (mortiseref07_state_bits.m K s2591 (5 : Int) (257 : Int)).bind fun (x2609, x2610, at_2611) =>
  cond (x2610 != (0 : Int))
    (
    .ok ((0 : Int), (0 : Int), ([] : List Int), ([] : List Int), x2610, at_2611))
    (
    (mortiseref07_state_bits.m K (T_mortiseref07_state.mk (T_mortiseref05_Reader.mk s2591.r_.S_ at_2611) s2591.out_ s2591.limit_) (5 : Int) (1 : Int)).bind fun (x2621, x2622, at_2623) =>
    cond (x2622 != (0 : Int))
      (
      .ok ((0 : Int), (0 : Int), ([] : List Int), ([] : List Int), x2622, at_2623))
      (
      (mortiseref07_state_bits.m K (T_mortiseref07_state.mk (T_mortiseref05_Reader.mk s2591.r_.S_ at_2623) s2591.out_ s2591.limit_) (4 : Int) (4 : Int)).bind fun (x2633, x2634, at_2635) =>
      cond (x2634 != (0 : Int))
        (
        .ok ((0 : Int), (0 : Int), ([] : List Int), ([] : List Int), x2634, at_2635))
        (
        cond ((decide (x2609 > (286 : Int))) || (decide (x2621 > (30 : Int))))
          (
          .ok ((0 : Int), (0 : Int), ([] : List Int), ([] : List Int), (3 : Int), at_2635))
          (
          chk (decide (0 ≤ (19 : Int)) && room (Int.toNat (19 : Int)) 8) <|
          lt (List.replicate (Int.toNat (19 : Int)) (0 : Int)) fun (zs2657 : (List Int)) =>
          (mortiseref07_Order.m K).bind fun _ =>
          mortiseref07_state_head.l1 K s2591 x2609 x2621 x2633 K at_2635 zs2657 false (0 : Int)))))

def mortiseref07_state_row.l3 (K : Nat) (g1 : Int → (List Int) → Res ((List Int) × Int × Int)) (at_2996 : Int) (value3000 : Int) (times3001 : Int) : Nat → (List Int) → Int → Res ((List Int) × Int × Int)
  | 0, _, _ => .fail
  | k + 1, out3031, i3034 =>
    cond (decide (i3034 < times3001))
      (
      chk (room (out3031.length + ([value3000] : List Int).length) 8) <|
      lt (out3031 ++ ([value3000] : List Int)) fun (zs3046 : (List Int)) =>
      lt ((w64 (i3034 + (1 : Int)))) fun (i3047 : Int) =>
      mortiseref07_state_row.l3 K g1 at_2996 value3000 times3001 k zs3046 i3047)
      (
      g1 at_2996 out3031)

def mortiseref07_state_row.j2 (K : Nat) (g1 : Int → (List Int) → Res ((List Int) × Int × Int)) (n_2820 : Int) (out2948 : (List Int)) (at_2996 : Int) (e_2999 : Int) (value3000 : Int) (times3001 : Int) : Res ((List Int) × Int × Int) :=
  cond (e_2999 != (0 : Int))
    (
    .ok (([] : List Int), e_2999, at_2996))
    (
    cond (decide (times3001 > (w64 (n_2820 - (out2948.length : Int)))))
      (
      .ok (([] : List Int), (3 : Int), at_2996))
      (
      mortiseref07_state_row.l3 K (g1) at_2996 value3000 times3001 K out2948 (0 : Int)))

def mortiseref07_state_row.l1 (K : Nat) (s2809 : T_mortiseref07_state) (n_2820 : Int) (c_2821 : T_mortiseref07_code) : Nat → Int → (List Int) → Res ((List Int) × Int × Int)
  | 0, _, _ => .fail
  | k + 1, at_2943, out2948 =>
    cond (decide ((out2948.length : Int) < n_2820))
      (
      (mortiseref06_Next.m K c_2821.l_ c_2821.codes_ (T_mortiseref05_Reader.mk s2809.r_.S_ at_2943)).bind fun (x2953, x2954, at_2955) =>
      cond (x2954 != (0 : Int))
        (
        .ok (([] : List Int), x2954, at_2955))
        (
        cond (decide (x2953 < (16 : Int)))
          (
          chk (room (out2948.length + ([x2953] : List Int).length) 8) <|
          lt (out2948 ++ ([x2953] : List Int)) fun (zs2971 : (List Int)) =>
          mortiseref07_state_row.l1 K s2809 n_2820 c_2821 k at_2955 zs2971)
          (
          lt ((x2953 == (16 : Int))) fun (v2972 : Bool) =>
          cond v2972
            (
            cond ((out2948.length : Int) == (0 : Int))
              (
              .ok (([] : List Int), (3 : Int), at_2955))
              (
              chk (inb (w64 ((out2948.length : Int) - (1 : Int))) out2948.length) <|
              lt ((rd out2948 (w64 ((out2948.length : Int) - (1 : Int))))) fun (value2978 : Int) =>
              (mortiseref07_state_bits.m K (T_mortiseref07_state.mk (T_mortiseref05_Reader.mk s2809.r_.S_ at_2955) s2809.out_ s2809.limit_) (2 : Int) (3 : Int)).bind fun (x2979, x2980, at_2981) =>
              mortiseref07_state_row.j2 K (mortiseref07_state_row.l1 K s2809 n_2820 c_2821 k) n_2820 out2948 at_2981 x2980 value2978 x2979))
            (
            lt ((x2953 == (17 : Int))) fun (v2984 : Bool) =>
            cond v2984
              (
              (mortiseref07_state_bits.m K (T_mortiseref07_state.mk (T_mortiseref05_Reader.mk s2809.r_.S_ at_2955) s2809.out_ s2809.limit_) (3 : Int) (3 : Int)).bind fun (x2986, x2987, at_2988) =>
              mortiseref07_state_row.j2 K (mortiseref07_state_row.l1 K s2809 n_2820 c_2821 k) n_2820 out2948 at_2988 x2987 (0 : Int) x2986)
              (
              (mortiseref07_state_bits.m K (T_mortiseref07_state.mk (T_mortiseref05_Reader.mk s2809.r_.S_ at_2955) s2809.out_ s2809.limit_) (7 : Int) (11 : Int)).bind fun (x2991, x2992, at_2993) =>
              mortiseref07_state_row.j2 K (mortiseref07_state_row.l1 K s2809 n_2820 c_2821 k) n_2820 out2948 at_2993 x2992 (0 : Int) x2991)))))
      (
      .ok (out2948, (0 : Int), at_2943))

def mortiseref07_state_row.m (K : Nat) (s2809 : T_mortiseref07_state) (n_2820 : Int) (c_2821 : T_mortiseref07_code) : Res ((List Int) × Int × Int) :=
  mortiseref07_state_row.l1 K s2809 n_2820 c_2821 K s2809.r_.At_ ([] : List Int)

def mortiseref07_state_dynamic.m (K : Nat) (s2580 : T_mortiseref07_state) : Res (Int × Int × (List Int)) :=
  (mortiseref07_state_head.m K s2580).bind fun (x2783, x2784, l_2787, codes2791, x2793, at_2794) =>
  cond (x2793 != (0 : Int))
    (
    .ok (x2793, at_2794, s2580.out_))
    (
    (mortiseref07_state_row.m K (T_mortiseref07_state.mk (T_mortiseref05_Reader.mk s2580.r_.S_ at_2794) s2580.out_ s2580.limit_) (w64 (x2783 + x2784)) (T_mortiseref07_code.mk l_2787 codes2791)).bind fun (x3061, x3063, at_3064) =>
    cond (x3063 != (0 : Int))
      (
      .ok (x3063, at_3064, s2580.out_))
      (
      chk (subok (0 : Int) x2783 x3061.length) <|
      lt (sub x3061 (0 : Int) x2783) fun (zs3070 : (List Int)) =>
      (mortiseref07_coded.m K zs3070).bind fun (codes3077, x3079) =>
      chk (subok x2783 (x3061.length : Int) x3061.length) <|
      lt (sub x3061 x2783 (x3061.length : Int)) fun (zs3091 : (List Int)) =>
      (mortiseref07_coded.m K zs3091).bind fun (codes3098, x3100) =>
      chk (imp false ((!x3079) || (!x3100)) (inb (256 : Int) x3061.length)) <|
      cond (((!x3079) || (!x3100)) || ((rd x3061 (256 : Int)) == (0 : Int)))
        (
        .ok ((3 : Int), at_3064, s2580.out_))
        (
        (mortiseref07_state_symbols.m K (T_mortiseref07_state.mk (T_mortiseref05_Reader.mk s2580.r_.S_ at_3064) s2580.out_ s2580.limit_) (T_mortiseref07_code.mk zs3070 codes3077) (T_mortiseref07_code.mk zs3091 codes3098)).bind fun (x3115, at_3116, out3120) =>
        .ok (x3115, at_3116, out3120))))

def mortiseref07_state_block.m (K : Nat) (s1664 : T_mortiseref07_state) : Res (Bool × Int × Int × (List Int)) :=
  (mortiseref07_state_bits.m K s1664 (1 : Int) (0 : Int)).bind fun (x1727, x1728, at_1729) =>
  cond (x1728 != (0 : Int))
    (
    .ok (false, x1728, at_1729, s1664.out_))
    (
    (mortiseref07_state_bits.m K (T_mortiseref07_state.mk (T_mortiseref05_Reader.mk s1664.r_.S_ at_1729) s1664.out_ s1664.limit_) (2 : Int) (0 : Int)).bind fun (x1733, x1734, at_1735) =>
    cond (x1734 != (0 : Int))
      (
      .ok (false, x1734, at_1735, s1664.out_))
      (
      lt ((x1733 == (0 : Int))) fun (v1739 : Bool) =>
      cond v1739
        (
        (mortiseref07_state_stored.m K (T_mortiseref07_state.mk (T_mortiseref05_Reader.mk s1664.r_.S_ at_1735) s1664.out_ s1664.limit_)).bind fun (x1837, at_1838, out1842) =>
        lt ((x1727 == (1 : Int))) fun (v1848 : Bool) =>
        .ok (v1848, x1837, at_1838, out1842))
        (
        lt ((x1733 == (1 : Int))) fun (v1849 : Bool) =>
        cond v1849
          (
          (mortiseref07_Fixed.m K).bind fun (x1967, x1971) =>
          (mortiseref07_coded.m K x1967).bind fun (codes2158, x2160) =>
          (mortiseref07_coded.m K x1971).bind fun (codes2173, x2175) =>
          (mortiseref07_state_symbols.m K (T_mortiseref07_state.mk (T_mortiseref05_Reader.mk s1664.r_.S_ at_1735) s1664.out_ s1664.limit_) (T_mortiseref07_code.mk x1967 codes2158) (T_mortiseref07_code.mk x1971 codes2173)).bind fun (x2566, at_2567, out2571) =>
          lt ((x1727 == (1 : Int))) fun (v2577 : Bool) =>
          .ok (v2577, x2566, at_2567, out2571))
          (
          lt ((x1733 == (2 : Int))) fun (v2578 : Bool) =>
          cond v2578
            (
            (mortiseref07_state_dynamic.m K (T_mortiseref07_state.mk (T_mortiseref05_Reader.mk s1664.r_.S_ at_1735) s1664.out_ s1664.limit_)).bind fun (x3137, at_3138, out3142) =>
            lt ((x1727 == (1 : Int))) fun (v3148 : Bool) =>
            .ok (v3148, x3137, at_3138, out3142))
            (
            .ok (false, (3 : Int), at_1735, s1664.out_))))))

def mortiseref07_Inflate.l1 (K : Nat) (t1652 : List UInt8) (limit1653 : Int) : Nat → Int → (List Int) → Res ((List UInt8) × Int × Int)
  | 0, _, _ => .fail
  | k + 1, at_3189, out3194 =>
    (mortiseref07_state_block.m K (T_mortiseref07_state.mk (T_mortiseref05_Reader.mk t1652 at_3189) out3194 limit1653)).bind fun (x3200, x3201, at_3202, out3206) =>
    cond (x3201 != (0 : Int))
      (
      .ok (([] : List UInt8), (0 : Int), x3201))
      (
      cond x3200
        (
        lt ((out3206.map tob)) fun (v3214 : List UInt8) =>
        lt ((iquo .i64 (w64 (at_3202 + (7 : Int))) (8 : Int))) fun (v3216 : Int) =>
        .ok (v3214, v3216, (0 : Int)))
        (
        mortiseref07_Inflate.l1 K t1652 limit1653 k at_3202 out3206))

def mortiseref07_Inflate.m (K : Nat) (t1652 : List UInt8) (limit1653 : Int) : Res ((List UInt8) × Int × Int) :=
  cond ((decide (limit1653 < (0 : Int))) || (decide (limit1653 > (1073741824 : Int))))
    (
    .ok (([] : List UInt8), (0 : Int), (1 : Int)))
    (
    mortiseref07_Inflate.l1 K t1652 limit1653 K (0 : Int) ([] : List Int))

def mortiseref03_AdlerMore.j2 (K : Nat)  (x3244 : Int) (y3245 : Int) : Res Int :=
  lt ((wr .u32 ((wr .u32 ((65536 : Int) * y3245)) + x3244))) fun (v3247 : Int) =>
  .ok v3247

def mortiseref03_AdlerMore.l1 (K : Nat) (s3231 : List UInt8) : Nat → Int → Int → Int → Res Int
  | 0, _, _, _ => .fail
  | k + 1, x3234, y3235, i3236 =>
    cond (decide (i3236 < (s3231.length : Int)))
      (
      chk (inb i3236 s3231.length) <|
      lt ((irem (wr .u32 (x3234 + (wr .u32 ((rd s3231 i3236).toNat : Int)))) (65521 : Int))) fun (x3240 : Int) =>
      lt ((irem (wr .u32 (y3235 + x3240)) (65521 : Int))) fun (y3241 : Int) =>
      lt ((w64 (i3236 + (1 : Int)))) fun (i3242 : Int) =>
      mortiseref03_AdlerMore.l1 K s3231 k x3240 y3241 i3242)
      (
      mortiseref03_AdlerMore.j2 K x3234 y3235)

def mortiseref03_AdlerMore.m (K : Nat) (a_3230 : Int) (s3231 : List UInt8) : Res Int :=
  lt ((irem (irem a_3230 (65536 : Int)) (65521 : Int))) fun (x3232 : Int) =>
  lt ((irem (iquo .u32 a_3230 (65536 : Int)) (65521 : Int))) fun (y3233 : Int) =>
  mortiseref03_AdlerMore.l1 K s3231 K x3232 y3233 (0 : Int)

def mortiseref03_Adler.m (K : Nat) (s3229 : List UInt8) : Res Int :=
  (mortiseref03_AdlerMore.m K (1 : Int) s3229).bind fun x3249 =>
  .ok x3249

def mortiseref10_Sum.m (K : Nat) (n_3252 : Int) : Res (List UInt8) :=
  lt ((([(wr .u8 (iquo .u32 n_3252 (16777216 : Int))), (wr .u8 (iquo .u32 n_3252 (65536 : Int))), (wr .u8 (iquo .u32 n_3252 (256 : Int))), (wr .u8 n_3252)] : List Int).map tob)) fun (v3257 : List UInt8) =>
  .ok v3257

def mortiseref10_Unzip.m (K : Nat) (s1642 : List UInt8) (limit1643 : Int) : Res ((List UInt8) × Int × Int) :=
  cond ((decide (limit1643 < (0 : Int))) || (decide (limit1643 > (1073741824 : Int))))
    (
    .ok (([] : List UInt8), (0 : Int), (1 : Int)))
    (
    cond (decide ((s1642.length : Int) < (2 : Int)))
      (
      .ok (([] : List UInt8), (0 : Int), (2 : Int)))
      (
      chk (inb (0 : Int) s1642.length) <|
      lt ((wr .i64 ((rd s1642 (0 : Int)).toNat : Int))) fun (a_1647 : Int) =>
      chk (inb (1 : Int) s1642.length) <|
      lt ((wr .i64 ((rd s1642 (1 : Int)).toNat : Int))) fun (b_1649 : Int) =>
      cond (((((irem a_1647 (16 : Int)) != (8 : Int)) || (decide ((iquo .i64 a_1647 (16 : Int)) > (7 : Int)))) || ((irem (w64 ((w64 ((256 : Int) * a_1647)) + b_1649)) (31 : Int)) != (0 : Int))) || ((irem (iquo .i64 b_1649 (32 : Int)) (2 : Int)) == (1 : Int)))
        (
        .ok (([] : List UInt8), (0 : Int), (3 : Int)))
        (
        chk (subok (2 : Int) (s1642.length : Int) s1642.length) <|
        (mortiseref07_Inflate.m K (sub s1642 (2 : Int) (s1642.length : Int)) limit1643).bind fun (x3222, x3223, x3224) =>
        cond (x3224 != (0 : Int))
          (
          .ok (([] : List UInt8), (0 : Int), x3224))
          (
          cond (decide ((w64 ((w64 ((s1642.length : Int) - (2 : Int))) - x3223)) < (4 : Int)))
            (
            .ok (([] : List UInt8), (0 : Int), (2 : Int)))
            (
            chk (subok (w64 ((2 : Int) + x3223)) (w64 ((6 : Int) + x3223)) s1642.length) <|
            (mortiseref03_Adler.m K x3222).bind fun x3251 =>
            (mortiseref10_Sum.m K x3251).bind fun x3259 =>
            cond (!((sub s1642 (w64 ((2 : Int) + x3223)) (w64 ((6 : Int) + x3223))) == x3259))
              (
              .ok (([] : List UInt8), (0 : Int), (4 : Int)))
              (
              lt ((w64 ((6 : Int) + x3223))) fun (v3261 : Int) =>
              .ok (x3222, v3261, (0 : Int))))))))

def mortiselaw10_ZlibReads.j1 (K : Nat)  (v3270 : Bool) : Res Bool :=
  .ok v3270

def mortiselaw10_ZlibReads.m (K : Nat) (s1 : List UInt8) (limit2 : Int) : Res Bool :=
  cond ((decide ((s1.length : Int) > (3000 : Int))) || (decide (limit2 > (40000 : Int))))
    (
    (mortiselaw10_live.m K).bind fun x1638 =>
    .ok x1638)
    (
    (zlib_Unzip.m K s1 limit2).bind fun (x1639, x1640, x1641) =>
    (mortiseref10_Unzip.m K s1 limit2).bind fun (x3265, x3266, x3267) =>
    cond (((x1639 == x3265) && (x1640 == x3266)) && (x1641 == x3267))
      (
      (mortiselaw10_live.m K).bind fun x3269 =>
      mortiselaw10_ZlibReads.j1 K x3269)
      (
      mortiselaw10_ZlibReads.j1 K false))

def mortiselaw10_ZlibHeads.j3 (K : Nat)  (v3293 : Bool) : Res Bool :=
  .ok v3293

def mortiselaw10_ZlibHeads.j2 (K : Nat)  (v3289 : Bool) : Res Bool :=
  cond v3289
    (
    (mortiselaw10_live.m K).bind fun x3292 =>
    mortiselaw10_ZlibHeads.j3 K x3292)
    (
    mortiselaw10_ZlibHeads.j3 K false)

def mortiselaw10_ZlibHeads.j1 (K : Nat)  (v3287 : Bool) : Res Bool :=
  mortiselaw10_ZlibHeads.j2 K v3287

def mortiselaw10_ZlibHeads.m (K : Nat) (a_3273 : Int) (b_3274 : Int) : Res Bool :=
  chk (fits ((([a_3273, b_3274] : List Int).map tob).length + ([3, 0, 0, 0, 0, 1] : List UInt8).length)) <|
  lt (((([a_3273, b_3274] : List Int).map tob) ++ ([3, 0, 0, 0, 0, 1] : List UInt8))) fun (s3280 : List UInt8) =>
  (zlib_Unzip.m K s3280 (0 : Int)).bind fun (x3281, x3282, x3283) =>
  lt ((((((iand .u8 a_3273 (15 : Int)) == (8 : Int)) && (decide ((ishr .u8 a_3273 (4 : Int)) ≤ (7 : Int)))) && ((irem (w64 ((ishl .i64 (wr .i64 a_3273) (8 : Int)) + (wr .i64 b_3274))) (31 : Int)) == (0 : Int))) && ((iand .u8 b_3274 (32 : Int)) == (0 : Int)))) fun (right3284 : Bool) =>
  cond ((x3283 == (0 : Int)) == right3284)
    (
    cond right3284
      (
      mortiselaw10_ZlibHeads.j1 K true)
      (
      mortiselaw10_ZlibHeads.j1 K (x3283 == (3 : Int))))
    (
    mortiselaw10_ZlibHeads.j2 K false)
end Go.Mo
