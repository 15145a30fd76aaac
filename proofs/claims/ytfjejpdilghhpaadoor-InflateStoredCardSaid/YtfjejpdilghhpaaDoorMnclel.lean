/- Models of the Go functions that this statement reaches, printed by a program of mine: nothing is proved but lengths of tables. -/
import Derived.Test.YtfjejpdilghhpaaDoorOwn
set_option linter.unusedVariables false
set_option linter.unusedSimpArgs false
namespace Go.Mo
open Go Go.Sl
structure T_mortiseref05_Writer where
  B_ : (List Int)
  deriving Inhabited
structure T_bits_place where
  at_ : Int
  deriving Inhabited
structure T_bits_Reader where
  place_ : T_bits_place
  text_ : List UInt8
  deriving Inhabited
structure T_inflate_reader where
  Reader_ : T_bits_Reader
  out_ : (List Int)
  limit_ : Int
  deriving Inhabited
structure T_huff_Table where
  counts_ : (List Int)
  symbols_ : (List Int)
  deriving Inhabited
structure T_inflate_run where
  from_ : Int
  bits_ : Int
  deriving Inhabited
structure T_mortiseref05_Reader where
  S_ : List UInt8
  At_ : Int
  deriving Inhabited
structure T_mortiseref07_state where
  r_ : T_mortiseref05_Reader
  out_ : (List Int)
  limit_ : Int
  deriving Inhabited
structure T_mortiseref07_code where
  l_ : (List Int)
  codes_ : (List Int)
  deriving Inhabited
abbrev ty_inflate_failed : TypeId := 39
def tab_inflate_lengths : List T_inflate_run := [⟨3, 0⟩, ⟨4, 0⟩, ⟨5, 0⟩, ⟨6, 0⟩, ⟨7, 0⟩, ⟨8, 0⟩, ⟨9, 0⟩, ⟨10, 0⟩, ⟨11, 1⟩, ⟨13, 1⟩, ⟨15, 1⟩, ⟨17, 1⟩, ⟨19, 2⟩, ⟨23, 2⟩, ⟨27, 2⟩, ⟨31, 2⟩, ⟨35, 3⟩, ⟨43, 3⟩, ⟨51, 3⟩, ⟨59, 3⟩, ⟨67, 4⟩, ⟨83, 4⟩, ⟨99, 4⟩, ⟨115, 4⟩, ⟨131, 5⟩, ⟨163, 5⟩, ⟨195, 5⟩, ⟨227, 5⟩, ⟨258, 0⟩]
theorem tab_inflate_lengths_len : tab_inflate_lengths.length = 29 := by decide
def tab_inflate_distances : List T_inflate_run := [⟨1, 0⟩, ⟨2, 0⟩, ⟨3, 0⟩, ⟨4, 0⟩, ⟨5, 1⟩, ⟨7, 1⟩, ⟨9, 2⟩, ⟨13, 2⟩, ⟨17, 3⟩, ⟨25, 3⟩, ⟨33, 4⟩, ⟨49, 4⟩, ⟨65, 5⟩, ⟨97, 5⟩, ⟨129, 6⟩, ⟨193, 6⟩, ⟨257, 7⟩, ⟨385, 7⟩, ⟨513, 8⟩, ⟨769, 8⟩, ⟨1025, 9⟩, ⟨1537, 9⟩, ⟨2049, 10⟩, ⟨3073, 10⟩, ⟨4097, 11⟩, ⟨6145, 11⟩, ⟨8193, 12⟩, ⟨12289, 12⟩, ⟨16385, 13⟩, ⟨24577, 13⟩]
theorem tab_inflate_distances_len : tab_inflate_distances.length = 30 := by decide
def tab_inflate_order : List Int := [16, 17, 18, 0, 8, 7, 9, 6, 10, 5, 11, 4, 12, 3, 13, 2, 14, 1, 15]
theorem tab_inflate_order_len : tab_inflate_order.length = 19 := by decide

def mortiseref05_Writer_Put.l3 (K : Nat) (n_10 : Int) : Nat → (List Int) → Int → Int → Res (Int × (List Int))
  | 0, _, _, _ => .fail
  | k + 1, b_49, v54, i55 =>
    cond (decide (i55 < n_10))
      (
      chk (room (b_49.length + ([(wr .u8 (irem v54 (2 : Int)))] : List Int).length) 1) <|
      lt (b_49 ++ ([(wr .u8 (irem v54 (2 : Int)))] : List Int)) fun (zs67 : (List Int)) =>
      lt ((iquo .u32 v54 (2 : Int))) fun (v70 : Int) =>
      lt ((w64 (i55 + (1 : Int)))) fun (i71 : Int) =>
      mortiseref05_Writer_Put.l3 K n_10 k zs67 v70 i71)
      (
      .ok ((0 : Int), b_49))

def mortiseref05_Writer_Put.j2 (K : Nat) (w_1 : T_mortiseref05_Writer) (v9 : Int) (n_10 : Int) (v17 : Bool) : Res (Int × (List Int)) :=
  cond v17
    (
    .ok ((1 : Int), w_1.B_))
    (
    mortiseref05_Writer_Put.l3 K n_10 K w_1.B_ v9 (0 : Int))

def mortiseref05_Writer_Put.j1 (K : Nat) (w_1 : T_mortiseref05_Writer) (v9 : Int) (n_10 : Int) (v15 : Bool) : Res (Int × (List Int)) :=
  mortiseref05_Writer_Put.j2 K w_1 v9 n_10 v15

def mortiseref05_Writer_Put.m (K : Nat) (w_1 : T_mortiseref05_Writer) (v9 : Int) (n_10 : Int) : Res (Int × (List Int)) :=
  cond ((decide (n_10 < (0 : Int))) || (decide (n_10 > (32 : Int))))
    (
    mortiseref05_Writer_Put.j2 K w_1 v9 n_10 true)
    (
    cond (decide (n_10 < (32 : Int)))
      (
      chk (decide (0 ≤ (wr .u64 n_10))) <|
      mortiseref05_Writer_Put.j1 K w_1 v9 n_10 (decide (v9 ≥ (ishl .u32 (1 : Int) (wr .u64 n_10)))))
      (
      mortiseref05_Writer_Put.j1 K w_1 v9 n_10 false))

def mortiseref05_Writer_Align.l1 (K : Nat)  : Nat → (List Int) → Res (List Int)
  | 0, _ => .fail
  | k + 1, b_112 =>
    cond ((irem (b_112.length : Int) (8 : Int)) != (0 : Int))
      (
      chk (room (b_112.length + ([(0 : Int)] : List Int).length) 1) <|
      lt (b_112 ++ ([(0 : Int)] : List Int)) fun (zs128 : (List Int)) =>
      mortiseref05_Writer_Align.l1 K k zs128)
      (
      .ok b_112)

def mortiseref05_Writer_Align.m (K : Nat) (w_81 : T_mortiseref05_Writer) : Res (List Int) :=
  mortiseref05_Writer_Align.l1 K K w_81.B_

def mortiseref05_Writer_Add.l1 (K : Nat) (s147 : List UInt8) : Nat → (List Int) → Int → Res (List Int)
  | 0, _, _ => .fail
  | k + 1, b_178, i183 =>
    cond (decide (i183 < (s147.length : Int)))
      (
      chk (inb i183 s147.length) <|
      (mortiseref05_Writer_Put.m K (T_mortiseref05_Writer.mk b_178) (wr .u32 ((rd s147 i183).toNat : Int)) (8 : Int)).bind fun (x187, b_190) =>
      lt ((w64 (i183 + (1 : Int)))) fun (i195 : Int) =>
      mortiseref05_Writer_Add.l1 K s147 k b_190 i195)
      (
      .ok b_178)

def mortiseref05_Writer_Add.m (K : Nat) (w_139 : T_mortiseref05_Writer) (s147 : List UInt8) : Res (List Int) :=
  (mortiseref05_Writer_Align.m K w_139).bind fun b_150 =>
  mortiseref05_Writer_Add.l1 K s147 K b_150 (0 : Int)

def mortiseref05_Writer_String.l1 (K : Nat) (w_204 : T_mortiseref05_Writer) : Nat → (List Int) → Int → Res (List UInt8)
  | 0, _, _ => .fail
  | k + 1, out237, i240 =>
    cond (decide (i240 < (w_204.B_.length : Int)))
      (
      chk (inb (iquo .i64 i240 (8 : Int)) out237.length) <|
      chk (inb i240 w_204.B_.length) <|
      chk (decide (0 ≤ (wr .u64 (irem i240 (8 : Int))))) <|
      lt (out237.set (Int.toNat (iquo .i64 i240 (8 : Int))) (wr .u8 ((rd out237 (iquo .i64 i240 (8 : Int))) + (ishl .u8 (rd w_204.B_ i240) (wr .u64 (irem i240 (8 : Int))))))) fun (zs252 : (List Int)) =>
      lt ((w64 (i240 + (1 : Int)))) fun (i254 : Int) =>
      mortiseref05_Writer_String.l1 K w_204 k zs252 i254)
      (
      lt ((out237.map tob)) fun (v243 : List UInt8) =>
      .ok v243)

def mortiseref05_Writer_String.m (K : Nat) (w_204 : T_mortiseref05_Writer) : Res (List UInt8) :=
  chk (decide (0 ≤ (iquo .i64 (w64 ((w_204.B_.length : Int) + (7 : Int))) (8 : Int))) && room (Int.toNat (iquo .i64 (w64 ((w_204.B_.length : Int) + (7 : Int))) (8 : Int))) 1) <|
  lt (List.replicate (Int.toNat (iquo .i64 (w64 ((w_204.B_.length : Int) + (7 : Int))) (8 : Int))) (0 : Int)) fun (zs217 : (List Int)) =>
  mortiseref05_Writer_String.l1 K w_204 K zs217 (0 : Int)

def bits_Reader_Bits.j2 (K : Nat) (r280 : T_bits_Reader) (n_284 : Int) (v300 : Int) : Res (Int × Int × Int) :=
  chk (decide (0 ≤ (iand .i64 r280.place_.at_ (7 : Int)))) <|
  lt ((ishr .u64 v300 (iand .i64 r280.place_.at_ (7 : Int)))) fun (v303 : Int) =>
  chk (decide (0 ≤ n_284)) <|
  lt ((wr .u32 (iand .u64 v303 (wr .u64 ((ishl .u64 (1 : Int) n_284) - (1 : Int)))))) fun (v307 : Int) =>
  .ok (v307, (0 : Int), (w64 (r280.place_.at_ + n_284)))

def bits_Reader_Bits.l1 (K : Nat) (r280 : T_bits_Reader) (n_284 : Int) (first290 : Int) : Nat → Int → Int → Res (Int × Int × Int)
  | 0, _, _ => .fail
  | k + 1, v291, i292 =>
    cond (decide ((w64 ((8 : Int) * (w64 (first290 + i292)))) < (w64 (r280.place_.at_ + n_284))))
      (
      chk (inb (w64 (first290 + i292)) r280.text_.length) <|
      chk (decide (0 ≤ (w64 ((8 : Int) * i292)))) <|
      lt ((ior .u64 v291 (ishl .u64 (wr .u64 ((rd r280.text_ (w64 (first290 + i292))).toNat : Int)) (w64 ((8 : Int) * i292))))) fun (v297 : Int) =>
      lt ((w64 (i292 + (1 : Int)))) fun (i298 : Int) =>
      bits_Reader_Bits.l1 K r280 n_284 first290 k v297 i298)
      (
      bits_Reader_Bits.j2 K r280 n_284 v291)

def bits_Reader_Bits.m (K : Nat) (r280 : T_bits_Reader) (n_284 : Int) : Res (Int × Int × Int) :=
  lt (((decide (n_284 < (0 : Int))) || (decide (n_284 > (32 : Int))))) fun (v285 : Bool) =>
  cond v285
    (
    .ok ((0 : Int), (1 : Int), r280.place_.at_))
    (
    lt ((decide (n_284 > (w64 ((w64 ((8 : Int) * (r280.text_.length : Int))) - r280.place_.at_))))) fun (v287 : Bool) =>
    cond v287
      (
      .ok ((0 : Int), (2 : Int), r280.place_.at_))
      (
      lt ((iquo .i64 r280.place_.at_ (8 : Int))) fun (first290 : Int) =>
      bits_Reader_Bits.l1 K r280 n_284 first290 K (0 : Int) (0 : Int)))

def inflate_must.m (K : Nat) (e_318 : Int) : Res Unit :=
  cond (e_318 != (0 : Int))
    (
    .pan (.iface ty_inflate_failed (.agg ⟨[.int .i64 e_318]⟩)))
    (
    .ok ())

def inflate_reader_number.m (K : Nat) (r268 : T_inflate_reader) (n_279 : Int) : Res (Int × Int) :=
  (bits_Reader_Bits.m K r268.Reader_ n_279).bind fun (x313, x314, at_315) =>
  (inflate_must.m K x314).bind fun _ =>
  lt ((wr .i64 x313)) fun (v320 : Int) =>
  .ok (v320, at_315)

def bits_place_align_bits_Reader.m (K : Nat) (p353 : T_bits_Reader) : Res Int :=
  .ok (iandn .i64 (w64 (p353.place_.at_ + (7 : Int))) (7 : Int))

def bits_Reader_Bytes.m (K : Nat) (r347 : T_bits_Reader) (n_351 : Int) : Res ((List UInt8) × Int × Int) :=
  cond (decide (n_351 < (0 : Int)))
    (
    .ok (([] : List UInt8), (1 : Int), r347.place_.at_))
    (
    (bits_place_align_bits_Reader.m K r347).bind fun at_362 =>
    chk (subok (iquo .i64 at_362 (8 : Int)) (r347.text_.length : Int) r347.text_.length) <|
    lt ((sub r347.text_ (iquo .i64 at_362 (8 : Int)) (r347.text_.length : Int))) fun (rest367 : List UInt8) =>
    cond (decide (n_351 > (rest367.length : Int)))
      (
      .ok (([] : List UInt8), (2 : Int), at_362))
      (
      chk (subok (0 : Int) n_351 rest367.length) <|
      lt ((sub rest367 (0 : Int) n_351)) fun (v373 : List UInt8) =>
      .ok (v373, (0 : Int), (w64 (at_362 + (w64 ((8 : Int) * n_351)))))))

def inflate_refuse.m (K : Nat) (bad394 : Bool) (e_395 : Int) : Res Unit :=
  cond bad394
    (
    .pan (.iface ty_inflate_failed (.agg ⟨[.int .i64 e_395]⟩)))
    (
    .ok ())

def inflate_reader_stored.m (K : Nat) (r336 : T_inflate_reader) : Res (Int × (List Int)) :=
  (bits_Reader_Bytes.m K r336.Reader_ (4 : Int)).bind fun (x379, x380, at_381) =>
  (inflate_must.m K x380).bind fun _ =>
  chk (inb (0 : Int) x379.length) <|
  chk (inb (1 : Int) x379.length) <|
  lt ((ior .i64 (wr .i64 ((rd x379 (0 : Int)).toNat : Int)) (ishl .i64 (wr .i64 ((rd x379 (1 : Int)).toNat : Int)) (8 : Int)))) fun (n_388 : Int) =>
  chk (inb (2 : Int) x379.length) <|
  chk (inb (3 : Int) x379.length) <|
  (inflate_refuse.m K ((ior .i64 (wr .i64 ((rd x379 (2 : Int)).toNat : Int)) (ishl .i64 (wr .i64 ((rd x379 (3 : Int)).toNat : Int)) (8 : Int))) != (ixor .i64 n_388 (65535 : Int))) (3 : Int)).bind fun _ =>
  (bits_Reader_Bytes.m K (T_bits_Reader.mk (T_bits_place.mk at_381) r336.Reader_.text_) n_388).bind fun (x397, x398, at_399) =>
  (inflate_must.m K x398).bind fun _ =>
  (inflate_refuse.m K (decide ((w64 ((r336.out_.length : Int) + n_388)) > r336.limit_)) (11 : Int)).bind fun _ =>
  chk (room (r336.out_.length + x397.length) 1) <|
  lt (r336.out_ ++ x397.map ofb) fun (zs407 : (List Int)) =>
  .ok (at_399, zs407)

def huff_count.j2 (K : Nat)  (c_592 : (List Int)) : Res ((List Int) × Bool) :=
  lt (c_592.set (Int.toNat (0 : Int)) (0 : Int)) fun (zs599 : (List Int)) =>
  .ok (zs599, true)

def huff_count.l1 (K : Nat) (lengths545 : List Int) : Nat → (List Int) → Int → Res ((List Int) × Bool)
  | 0, _, _ => .fail
  | k + 1, c_574, v578 =>
    cond (decide (v578 < (lengths545.length : Int)))
      (
      chk (inb v578 lengths545.length) <|
      lt ((rd lengths545 v578)) fun (n_582 : Int) =>
      cond ((decide (n_582 < (0 : Int))) || (decide (n_582 > (15 : Int))))
        (
        .ok (c_574, false))
        (
        chk (inb n_582 16) <|
        lt (c_574.set (Int.toNat n_582) (w64 ((rd c_574 n_582) + (1 : Int)))) fun (zs589 : (List Int)) =>
        huff_count.l1 K lengths545 k zs589 (w64 (v578 + (1 : Int)))))
      (
      huff_count.j2 K c_574)

def huff_count.m (K : Nat) (lengths545 : List Int) : Res ((List Int) × Bool) :=
  cond (decide ((lengths545.length : Int) > (320 : Int)))
    (
    .ok ((List.replicate 16 (0 : Int)), false))
    (
    huff_count.l1 K lengths545 K (List.replicate 16 (0 : Int)) (0 : Int))

def huff_Check.j2 (K : Nat) (x606 : (List Int)) (sum624 : Int) : Res Int :=
  cond (((sum624 == (0 : Int)) || (sum624 == (32768 : Int))) || (x606 == ([0, (1 : Int), 0, 0, 0, 0, 0, 0, 0, 0, 0, 0, 0, 0, 0, 0] : List Int)))
    (
    .ok (0 : Int))
    (
    .ok (3 : Int))

def huff_Check.l1 (K : Nat) (x606 : (List Int)) : Nat → Int → Int → Res Int
  | 0, _, _ => .fail
  | k + 1, sum615, v616 =>
    cond (decide (v616 < (16 : Int)))
      (
      chk (inb v616 16) <|
      lt ((rd x606 v616)) fun (k_620 : Int) =>
      chk (decide (0 ≤ v616)) <|
      lt ((w64 (sum615 + (w64 (k_620 * (ishr .i64 (32768 : Int) v616)))))) fun (sum622 : Int) =>
      huff_Check.l1 K x606 k sum622 (w64 (v616 + (1 : Int))))
      (
      huff_Check.j2 K x606 sum615)

def huff_Check.m (K : Nat) (lengths540 : List Int) : Res Int :=
  (huff_count.m K lengths540).bind fun (x606, x607) =>
  cond (!x607)
    (
    .ok (1 : Int))
    (
    huff_Check.l1 K x606 K (0 : Int) (0 : Int))

def huff_New.l2 (K : Nat) (g1 : (List Int) → Int → Res ((Option T_huff_Table) × Int)) (lengths535 : List Int) (n_712 : Int) : Nat → (List Int) → Int → Res ((Option T_huff_Table) × Int)
  | 0, _, _ => .fail
  | k + 1, symbols744, v749 =>
    cond (decide (v749 < (lengths535.length : Int)))
      (
      chk (inb v749 lengths535.length) <|
      lt ((rd lengths535 v749)) fun (k_754 : Int) =>
      cond (k_754 == n_712)
        (
        chk (room (symbols744.length + ([v749] : List Int).length) 8) <|
        lt (symbols744 ++ ([v749] : List Int)) fun (zs765 : (List Int)) =>
        huff_New.l2 K g1 lengths535 n_712 k zs765 (w64 (v749 + (1 : Int))))
        (
        huff_New.l2 K g1 lengths535 n_712 k symbols744 (w64 (v749 + (1 : Int)))))
      (
      lt ((w64 (n_712 + (1 : Int)))) fun (n_752 : Int) =>
      g1 symbols744 n_752)

def huff_New.l1 (K : Nat) (lengths535 : List Int) (x635 : (List Int)) : Nat → (List Int) → Int → Res ((Option T_huff_Table) × Int)
  | 0, _, _ => .fail
  | k + 1, symbols707, n_712 =>
    cond (decide (n_712 ≤ (15 : Int)))
      (
      huff_New.l2 K (huff_New.l1 K lengths535 x635 k) lengths535 n_712 K symbols707 (0 : Int))
      (
      .ok ((some (T_huff_Table.mk x635 symbols707)), (0 : Int)))

def huff_New.m (K : Nat) (lengths535 : List Int) : Res ((Option T_huff_Table) × Int) :=
  (huff_Check.m K lengths535).bind fun x628 =>
  cond (x628 != (0 : Int))
    (
    .ok (none, x628))
    (
    (huff_count.m K lengths535).bind fun (x635, x636) =>
    huff_New.l1 K lengths535 x635 K ([] : List Int) (1 : Int))

def inflate_table.m (K : Nat) (l_530 : List Int) : Res (Option T_huff_Table) :=
  (huff_New.m K l_530).bind fun (x786, x788) =>
  (inflate_refuse.m K (x788 != (0 : Int)) (3 : Int)).bind fun _ =>
  .ok x786

def inflate_fixed.j2 (K : Nat) (g1 : (List Int) → Int → Res ((Option T_huff_Table) × (Option T_huff_Table))) (v467 : Int) (l_480 : (List Int)) : Res ((Option T_huff_Table) × (Option T_huff_Table)) :=
  cond ((decide (v467 ≥ (256 : Int))) && (decide (v467 < (280 : Int))))
    (
    lt (l_480.set (Int.toNat v467) (7 : Int)) fun (zs488 : (List Int)) =>
    g1 zs488 (w64 (v467 + (1 : Int))))
    (
    g1 l_480 (w64 (v467 + (1 : Int))))

def inflate_fixed.j5 (K : Nat) (l_491 : (List Int)) (d525 : (List Int)) : Res ((Option T_huff_Table) × (Option T_huff_Table)) :=
  (inflate_table.m K l_491).bind fun x795 =>
  (inflate_table.m K d525).bind fun x799 =>
  .ok (x795, x799)

def inflate_fixed.l4 (K : Nat) (l_491 : (List Int)) : Nat → (List Int) → Int → Res ((Option T_huff_Table) × (Option T_huff_Table))
  | 0, _, _ => .fail
  | k + 1, d512, v516 =>
    cond (decide (v516 < (32 : Int)))
      (
      chk (inb v516 32) <|
      lt (d512.set (Int.toNat v516) (5 : Int)) fun (zs522 : (List Int)) =>
      inflate_fixed.l4 K l_491 k zs522 (w64 (v516 + (1 : Int))))
      (
      inflate_fixed.j5 K l_491 d512)

def inflate_fixed.j3 (K : Nat)  (l_491 : (List Int)) : Res ((Option T_huff_Table) × (Option T_huff_Table)) :=
  inflate_fixed.l4 K l_491 K (List.replicate 32 (0 : Int)) (0 : Int)

def inflate_fixed.l1 (K : Nat)  : Nat → (List Int) → Int → Res ((Option T_huff_Table) × (Option T_huff_Table))
  | 0, _, _ => .fail
  | k + 1, l_463, v467 =>
    cond (decide (v467 < (288 : Int)))
      (
      chk (inb v467 288) <|
      lt (l_463.set (Int.toNat v467) (8 : Int)) fun (zs473 : (List Int)) =>
      cond ((decide (v467 ≥ (144 : Int))) && (decide (v467 < (256 : Int))))
        (
        lt (zs473.set (Int.toNat v467) (9 : Int)) fun (zs478 : (List Int)) =>
        inflate_fixed.j2 K (inflate_fixed.l1 K k) v467 zs478)
        (
        inflate_fixed.j2 K (inflate_fixed.l1 K k) v467 zs473))
      (
      inflate_fixed.j3 K l_463)

def inflate_fixed.m (K : Nat) : Res ((Option T_huff_Table) × (Option T_huff_Table)) :=
  inflate_fixed.l1 K K (List.replicate 288 (0 : Int)) (0 : Int)

def huff_Table_Next.j2 (K : Nat) (r899 : T_bits_Reader) (at_967 : Int) : Res (Int × Int × Int) :=
  .ok ((0 : Int), (3 : Int), r899.place_.at_)

def huff_Table_Next.l1 (K : Nat) (t890 : T_huff_Table) (r899 : T_bits_Reader) : Nat → Int → Int → Int → Int → Int → Res (Int × Int × Int)
  | 0, _, _, _, _, _ => .fail
  | k + 1, at_939, code942, first943, passed944, n_945 =>
    cond (decide (passed944 < (t890.symbols_.length : Int)))
      (
      (bits_Reader_Bits.m K (T_bits_Reader.mk (T_bits_place.mk at_939) r899.text_) (1 : Int)).bind fun (x948, x949, at_950) =>
      cond (x949 != (0 : Int))
        (
        .ok ((0 : Int), x949, r899.place_.at_))
        (
        lt ((ior .i64 (ishl .i64 code942 (1 : Int)) (wr .i64 x948))) fun (code956 : Int) =>
        lt ((ishl .i64 first943 (1 : Int))) fun (first957 : Int) =>
        chk (inb n_945 16) <|
        lt ((rd t890.counts_ n_945)) fun (k_959 : Int) =>
        cond (decide ((w64 (code956 - first957)) < k_959))
          (
          chk (inb (w64 ((w64 (passed944 + code956)) - first957)) t890.symbols_.length) <|
          lt ((rd t890.symbols_ (w64 ((w64 (passed944 + code956)) - first957)))) fun (v962 : Int) =>
          .ok (v962, (0 : Int), at_950))
          (
          lt ((w64 (first957 + k_959))) fun (first963 : Int) =>
          lt ((w64 (passed944 + k_959))) fun (passed964 : Int) =>
          lt ((w64 (n_945 + (1 : Int)))) fun (n_965 : Int) =>
          huff_Table_Next.l1 K t890 r899 k at_950 code956 first963 passed964 n_965)))
      (
      huff_Table_Next.j2 K r899 at_939)

def huff_Table_Next.m (K : Nat) (t890 : T_huff_Table) (r899 : T_bits_Reader) : Res (Int × Int × Int) :=
  huff_Table_Next.l1 K t890 r899 K r899.place_.at_ (0 : Int) (0 : Int) (0 : Int) (1 : Int)

def inflate_reader_symbol.m (K : Nat) (r870 : T_inflate_reader) (t881 : T_huff_Table) : Res (Int × Int) :=
  (huff_Table_Next.m K t881 r870.Reader_).bind fun (x978, x979, at_980) =>
  (inflate_must.m K x979).bind fun _ =>
  .ok (x978, at_980)

def inflate_reader_far.m (K : Nat) (r1008 : T_inflate_reader) (x1019 : T_inflate_run) : Res (Int × Int) :=
  (inflate_reader_number.m K r1008 x1019.bits_).bind fun (x1023, at_1024) =>
  lt ((w64 (x1019.from_ + x1023))) fun (v1027 : Int) =>
  .ok (v1027, at_1024)

def inflate_reader_symbols.l2 (K : Nat) (g1 : Int → (List Int) → Res (Int × (List Int))) (x1138 : Int) (x1147 : Int) (at_1148 : Int) : Nat → (List Int) → Int → Res (Int × (List Int))
  | 0, _, _ => .fail
  | k + 1, out1178, v1183 =>
    cond (decide (v1183 < x1138))
      (
      chk (inb (w64 ((out1178.length : Int) - x1147)) out1178.length) <|
      chk (room (out1178.length + ([(rd out1178 (w64 ((out1178.length : Int) - x1147)))] : List Int).length) 1) <|
      lt (out1178 ++ ([(rd out1178 (w64 ((out1178.length : Int) - x1147)))] : List Int)) fun (zs1197 : (List Int)) =>
      inflate_reader_symbols.l2 K g1 x1138 x1147 at_1148 k zs1197 (w64 (v1183 + (1 : Int))))
      (
      g1 at_1148 out1178)

def inflate_reader_symbols.l1 (K : Nat) (r840 : T_inflate_reader) (literals851 : T_huff_Table) (back860 : T_huff_Table) : Nat → Int → (List Int) → Res (Int × (List Int))
  | 0, _, _ => .fail
  | k + 1, at_1106, out1111 =>
    (inflate_reader_symbol.m K (T_inflate_reader.mk (T_bits_Reader.mk (T_bits_place.mk at_1106) r840.Reader_.text_) out1111 r840.limit_) literals851).bind fun (x1117, at_1118) =>
    lt ((x1117 == (256 : Int))) fun (v1121 : Bool) =>
    cond v1121
      (
      .ok (at_1118, out1111))
      (
      lt ((decide (x1117 < (256 : Int)))) fun (v1123 : Bool) =>
      cond v1123
        (
        (inflate_refuse.m K ((out1111.length : Int) == r840.limit_) (11 : Int)).bind fun _ =>
        chk (room (out1111.length + ([(wr .u8 x1117)] : List Int).length) 1) <|
        lt (out1111 ++ ([(wr .u8 x1117)] : List Int)) fun (zs1134 : (List Int)) =>
        inflate_reader_symbols.l1 K r840 literals851 back860 k at_1118 zs1134)
        (
        (inflate_refuse.m K (decide (x1117 ≥ (286 : Int))) (3 : Int)).bind fun _ =>
        chk (inb (w64 (x1117 - (257 : Int))) 29) <|
        (inflate_reader_far.m K (T_inflate_reader.mk (T_bits_Reader.mk (T_bits_place.mk at_1118) r840.Reader_.text_) out1111 r840.limit_) (T_inflate_run.mk ((rd tab_inflate_lengths (w64 (x1117 - (257 : Int)))).from_) ((rd tab_inflate_lengths (w64 (x1117 - (257 : Int)))).bits_))).bind fun (x1138, at_1139) =>
        (inflate_reader_symbol.m K (T_inflate_reader.mk (T_bits_Reader.mk (T_bits_place.mk at_1139) r840.Reader_.text_) out1111 r840.limit_) back860).bind fun (x1142, at_1143) =>
        (inflate_refuse.m K (decide (x1142 ≥ (30 : Int))) (3 : Int)).bind fun _ =>
        chk (inb x1142 30) <|
        (inflate_reader_far.m K (T_inflate_reader.mk (T_bits_Reader.mk (T_bits_place.mk at_1143) r840.Reader_.text_) out1111 r840.limit_) (T_inflate_run.mk ((rd tab_inflate_distances x1142).from_) ((rd tab_inflate_distances x1142).bits_))).bind fun (x1147, at_1148) =>
        (inflate_refuse.m K (decide (x1147 > (out1111.length : Int))) (3 : Int)).bind fun _ =>
        (inflate_refuse.m K (decide ((w64 ((out1111.length : Int) + x1138)) > r840.limit_)) (11 : Int)).bind fun _ =>
        inflate_reader_symbols.l2 K (inflate_reader_symbols.l1 K r840 literals851 back860 k) x1138 x1147 at_1148 K out1111 (0 : Int)))

def inflate_reader_symbols.m (K : Nat) (r840 : T_inflate_reader) (literals851 : T_huff_Table) (back860 : T_huff_Table) : Res (Int × (List Int)) :=
  inflate_reader_symbols.l1 K r840 literals851 back860 K r840.Reader_.place_.at_ r840.out_

def inflate_reader_row.l3 (K : Nat) (g1 : Int → (List Int) → Res ((List Int) × Int)) (at_1471 : Int) (value1474 : Int) (times1475 : Int) : Nat → (List Int) → Int → Res ((List Int) × Int)
  | 0, _, _ => .fail
  | k + 1, l_1498, v1501 =>
    cond (decide (v1501 < times1475))
      (
      chk (room (l_1498.length + ([value1474] : List Int).length) 8) <|
      lt (l_1498 ++ ([value1474] : List Int)) fun (zs1513 : (List Int)) =>
      inflate_reader_row.l3 K g1 at_1471 value1474 times1475 k zs1513 (w64 (v1501 + (1 : Int))))
      (
      g1 at_1471 l_1498)

def inflate_reader_row.j2 (K : Nat) (g1 : Int → (List Int) → Res ((List Int) × Int)) (n_1333 : Int) (l_1436 : (List Int)) (at_1471 : Int) (value1474 : Int) (times1475 : Int) : Res ((List Int) × Int) :=
  (inflate_refuse.m K (decide (times1475 > (w64 (n_1333 - (l_1436.length : Int))))) (3 : Int)).bind fun _ =>
  inflate_reader_row.l3 K (g1) at_1471 value1474 times1475 K l_1436 (0 : Int)

def inflate_reader_row.l1 (K : Nat) (r1322 : T_inflate_reader) (n_1333 : Int) (t1334 : T_huff_Table) : Nat → Int → (List Int) → Res ((List Int) × Int)
  | 0, _, _ => .fail
  | k + 1, at_1431, l_1436 =>
    cond (decide ((l_1436.length : Int) < n_1333))
      (
      (inflate_reader_symbol.m K (T_inflate_reader.mk (T_bits_Reader.mk (T_bits_place.mk at_1431) r1322.Reader_.text_) r1322.out_ r1322.limit_) t1334).bind fun (x1441, at_1442) =>
      lt ((decide (x1441 < (16 : Int)))) fun (v1445 : Bool) =>
      cond v1445
        (
        inflate_reader_row.j2 K (inflate_reader_row.l1 K r1322 n_1333 t1334 k) n_1333 l_1436 at_1442 x1441 (1 : Int))
        (
        lt ((x1441 == (16 : Int))) fun (v1447 : Bool) =>
        cond v1447
          (
          (inflate_refuse.m K ((l_1436.length : Int) == (0 : Int)) (3 : Int)).bind fun _ =>
          chk (inb (w64 ((l_1436.length : Int) - (1 : Int))) l_1436.length) <|
          (inflate_reader_number.m K (T_inflate_reader.mk (T_bits_Reader.mk (T_bits_place.mk at_1442) r1322.Reader_.text_) r1322.out_ r1322.limit_) (2 : Int)).bind fun (x1451, at_1452) =>
          lt ((rd l_1436 (w64 ((l_1436.length : Int) - (1 : Int))))) fun (value1455 : Int) =>
          lt ((w64 ((3 : Int) + x1451))) fun (times1457 : Int) =>
          inflate_reader_row.j2 K (inflate_reader_row.l1 K r1322 n_1333 t1334 k) n_1333 l_1436 at_1452 value1455 times1457)
          (
          lt ((x1441 == (17 : Int))) fun (v1459 : Bool) =>
          cond v1459
            (
            (inflate_reader_number.m K (T_inflate_reader.mk (T_bits_Reader.mk (T_bits_place.mk at_1442) r1322.Reader_.text_) r1322.out_ r1322.limit_) (3 : Int)).bind fun (x1461, at_1462) =>
            lt ((w64 ((3 : Int) + x1461))) fun (times1465 : Int) =>
            inflate_reader_row.j2 K (inflate_reader_row.l1 K r1322 n_1333 t1334 k) n_1333 l_1436 at_1462 (0 : Int) times1465)
            (
            (inflate_reader_number.m K (T_inflate_reader.mk (T_bits_Reader.mk (T_bits_place.mk at_1442) r1322.Reader_.text_) r1322.out_ r1322.limit_) (7 : Int)).bind fun (x1466, at_1467) =>
            lt ((w64 ((11 : Int) + x1466))) fun (times1470 : Int) =>
            inflate_reader_row.j2 K (inflate_reader_row.l1 K r1322 n_1333 t1334 k) n_1333 l_1436 at_1467 (0 : Int) times1470))))
      (
      .ok (l_1436, at_1431))

def inflate_reader_row.m (K : Nat) (r1322 : T_inflate_reader) (n_1333 : Int) (t1334 : T_huff_Table) : Res ((List Int) × Int) :=
  inflate_reader_row.l1 K r1322 n_1333 t1334 K r1322.Reader_.place_.at_ ([] : List Int)

def inflate_reader_dynamic.j2 (K : Nat) (r1224 : T_inflate_reader) (n_1243 : Int) (d1244 : Int) (at_1299 : Int) (l_1302 : (List Int)) : Res ((Option T_huff_Table) × (Option T_huff_Table) × Int) :=
  (inflate_refuse.m K (l_1302 == ([0, 0, 0, 0, 0, 0, 0, 0, 0, 0, 0, 0, 0, 0, 0, 0, 0, 0, 0] : List Int)) (3 : Int)).bind fun _ =>
  (inflate_table.m K l_1302).bind fun x1308 =>
  unw x1308 fun x1311 =>
  (inflate_reader_row.m K (T_inflate_reader.mk (T_bits_Reader.mk (T_bits_place.mk at_1299) r1224.Reader_.text_) r1224.out_ r1224.limit_) (w64 (n_1243 + d1244)) x1311).bind fun (x1526, at_1528) =>
  chk (inb (256 : Int) x1526.length) <|
  (inflate_refuse.m K ((rd x1526 (256 : Int)) == (0 : Int)) (3 : Int)).bind fun _ =>
  chk (subok (0 : Int) n_1243 x1526.length) <|
  lt (sub x1526 (0 : Int) n_1243) fun (zs1534 : (List Int)) =>
  chk (subok n_1243 (x1526.length : Int) x1526.length) <|
  lt (sub x1526 n_1243 (x1526.length : Int)) fun (zs1541 : (List Int)) =>
  (inflate_table.m K zs1534).bind fun x1548 =>
  (inflate_table.m K zs1541).bind fun x1552 =>
  .ok (x1548, x1552, at_1528)

def inflate_reader_dynamic.l1 (K : Nat) (r1224 : T_inflate_reader) (n_1243 : Int) (d1244 : Int) (some_1249 : Int) : Nat → Int → (List Int) → Int → Res ((Option T_huff_Table) × (Option T_huff_Table) × Int)
  | 0, _, _, _ => .fail
  | k + 1, at_1276, l_1279, v1283 =>
    cond (decide (v1283 < (19 : Int)))
      (
      chk (inb v1283 19) <|
      lt ((rd tab_inflate_order v1283)) fun (s1287 : Int) =>
      cond (decide (v1283 < some_1249))
        (
        (inflate_reader_number.m K (T_inflate_reader.mk (T_bits_Reader.mk (T_bits_place.mk at_1276) r1224.Reader_.text_) r1224.out_ r1224.limit_) (3 : Int)).bind fun (x1289, at_1290) =>
        chk (inb s1287 19) <|
        lt (l_1279.set (Int.toNat s1287) x1289) fun (zs1296 : (List Int)) =>
        inflate_reader_dynamic.l1 K r1224 n_1243 d1244 some_1249 k at_1290 zs1296 (w64 (v1283 + (1 : Int))))
        (
        inflate_reader_dynamic.l1 K r1224 n_1243 d1244 some_1249 k at_1276 l_1279 (w64 (v1283 + (1 : Int)))))
      (
      inflate_reader_dynamic.j2 K r1224 n_1243 d1244 at_1276 l_1279)

def inflate_reader_dynamic.m (K : Nat) (r1224 : T_inflate_reader) : Res ((Option T_huff_Table) × (Option T_huff_Table) × Int) :=
  (inflate_reader_number.m K r1224 (5 : Int)).bind fun (x1235, at_1236) =>
  (inflate_reader_number.m K (T_inflate_reader.mk (T_bits_Reader.mk (T_bits_place.mk at_1236) r1224.Reader_.text_) r1224.out_ r1224.limit_) (5 : Int)).bind fun (x1239, at_1240) =>
  lt ((w64 (x1235 + (257 : Int)))) fun (n_1243 : Int) =>
  lt ((w64 (x1239 + (1 : Int)))) fun (d1244 : Int) =>
  (inflate_reader_number.m K (T_inflate_reader.mk (T_bits_Reader.mk (T_bits_place.mk at_1240) r1224.Reader_.text_) r1224.out_ r1224.limit_) (4 : Int)).bind fun (x1245, at_1246) =>
  lt ((w64 (x1245 + (4 : Int)))) fun (some_1249 : Int) =>
  (inflate_refuse.m K ((decide (n_1243 > (286 : Int))) || (decide (d1244 > (30 : Int)))) (3 : Int)).bind fun _ =>
  inflate_reader_dynamic.l1 K r1224 n_1243 d1244 some_1249 K at_1246 (List.replicate 19 (0 : Int)) (0 : Int)

def inflate_reader_block.m (K : Nat) (r257 : T_inflate_reader) : Res (Bool × Int × (List Int)) :=
  (inflate_reader_number.m K r257 (1 : Int)).bind fun (x325, at_326) =>
  lt ((x325 == (1 : Int))) fun (last329 : Bool) =>
  (inflate_reader_number.m K (T_inflate_reader.mk (T_bits_Reader.mk (T_bits_place.mk at_326) r257.Reader_.text_) r257.out_ r257.limit_) (2 : Int)).bind fun (x330, at_331) =>
  lt ((x330 == (0 : Int))) fun (v334 : Bool) =>
  cond v334
    (
    (inflate_reader_stored.m K (T_inflate_reader.mk (T_bits_Reader.mk (T_bits_place.mk at_331) r257.Reader_.text_) r257.out_ r257.limit_)).bind fun (at_420, out424) =>
    .ok (last329, at_420, out424))
    (
    lt ((x330 == (1 : Int))) fun (v430 : Bool) =>
    cond v430
      (
      (inflate_fixed.m K).bind fun (x811, x814) =>
      unw x811 fun x818 =>
      unw x814 fun x829 =>
      (inflate_reader_symbols.m K (T_inflate_reader.mk (T_bits_Reader.mk (T_bits_place.mk at_331) r257.Reader_.text_) r257.out_ r257.limit_) x818 x829).bind fun (at_1212, out1216) =>
      .ok (last329, at_1212, out1216))
      (
      lt ((x330 == (2 : Int))) fun (v1222 : Bool) =>
      cond v1222
        (
        (inflate_reader_dynamic.m K (T_inflate_reader.mk (T_bits_Reader.mk (T_bits_place.mk at_331) r257.Reader_.text_) r257.out_ r257.limit_)).bind fun (x1567, x1570, at_1572) =>
        unw x1567 fun x1577 =>
        unw x1570 fun x1588 =>
        (inflate_reader_symbols.m K (T_inflate_reader.mk (T_bits_Reader.mk (T_bits_place.mk at_1572) r257.Reader_.text_) r257.out_ r257.limit_) x1577 x1588).bind fun (at_1599, out1603) =>
        .ok (last329, at_1599, out1603))
        (
        (inflate_refuse.m K true (3 : Int)).bind fun _ =>
        .ok (last329, at_331, r257.out_))))

def mortiseref05_Reader_Bits.j2 (K : Nat) (r1644 : T_mortiseref05_Reader) (n_1648 : Int) (v1663 : Int) : Res (Int × Int × Int) :=
  .ok (v1663, (0 : Int), (w64 (r1644.At_ + n_1648)))

def mortiseref05_Reader_Bits.l1 (K : Nat) (r1644 : T_mortiseref05_Reader) (n_1648 : Int) : Nat → Int → Int → Res (Int × Int × Int)
  | 0, _, _ => .fail
  | k + 1, v1651, i1652 =>
    cond (decide (i1652 < n_1648))
      (
      lt ((w64 (r1644.At_ + i1652))) fun (k_1655 : Int) =>
      chk (inb (iquo .i64 k_1655 (8 : Int)) r1644.S_.length) <|
      chk (decide (0 ≤ (wr .u64 (irem k_1655 (8 : Int))))) <|
      lt ((irem (ishr .u32 (wr .u32 ((rd r1644.S_ (iquo .i64 k_1655 (8 : Int))).toNat : Int)) (wr .u64 (irem k_1655 (8 : Int)))) (2 : Int))) fun (b_1658 : Int) =>
      chk (decide (0 ≤ (wr .u64 i1652))) <|
      lt ((wr .u32 (v1651 + (ishl .u32 b_1658 (wr .u64 i1652))))) fun (v1660 : Int) =>
      lt ((w64 (i1652 + (1 : Int)))) fun (i1661 : Int) =>
      mortiseref05_Reader_Bits.l1 K r1644 n_1648 k v1660 i1661)
      (
      mortiseref05_Reader_Bits.j2 K r1644 n_1648 v1651)

def mortiseref05_Reader_Bits.m (K : Nat) (r1644 : T_mortiseref05_Reader) (n_1648 : Int) : Res (Int × Int × Int) :=
  cond ((decide (n_1648 < (0 : Int))) || (decide (n_1648 > (32 : Int))))
    (
    .ok ((0 : Int), (1 : Int), r1644.At_))
    (
    cond (decide (n_1648 > (w64 ((w64 ((8 : Int) * (r1644.S_.length : Int))) - r1644.At_))))
      (
      .ok ((0 : Int), (2 : Int), r1644.At_))
      (
      mortiseref05_Reader_Bits.l1 K r1644 n_1648 K (0 : Int) (0 : Int)))

def mortiseref07_state_bits.m (K : Nat) (s1631 : T_mortiseref07_state) (n_1642 : Int) (from_1643 : Int) : Res (Int × Int × Int) :=
  (mortiseref05_Reader_Bits.m K s1631.r_ n_1642).bind fun (x1672, x1673, at_1674) =>
  lt ((w64 (from_1643 + (wr .i64 x1672)))) fun (v1677 : Int) =>
  .ok (v1677, x1673, at_1674)

def mortiseref05_Reader_Align.l1 (K : Nat)  : Nat → Int → Res Int
  | 0, _ => .fail
  | k + 1, at_1725 =>
    cond ((irem at_1725 (8 : Int)) != (0 : Int))
      (
      mortiseref05_Reader_Align.l1 K k (w64 (at_1725 + (1 : Int))))
      (
      .ok at_1725)

def mortiseref05_Reader_Align.m (K : Nat) (r1714 : T_mortiseref05_Reader) : Res Int :=
  mortiseref05_Reader_Align.l1 K K r1714.At_

def mortiseref05_Reader_Bytes.m (K : Nat) (r1708 : T_mortiseref05_Reader) (n_1712 : Int) : Res ((List UInt8) × Int × Int) :=
  cond (decide (n_1712 < (0 : Int)))
    (
    .ok (([] : List UInt8), (1 : Int), r1708.At_))
    (
    (mortiseref05_Reader_Align.m K r1708).bind fun at_1736 =>
    lt ((iquo .i64 at_1736 (8 : Int))) fun (at_1739 : Int) =>
    cond (decide (n_1712 > (w64 ((r1708.S_.length : Int) - at_1739))))
      (
      .ok (([] : List UInt8), (2 : Int), at_1736))
      (
      chk (subok at_1739 (w64 (at_1739 + n_1712)) r1708.S_.length) <|
      lt ((sub r1708.S_ at_1739 (w64 (at_1739 + n_1712)))) fun (v1744 : List UInt8) =>
      .ok (v1744, (0 : Int), (w64 (at_1736 + (w64 ((8 : Int) * n_1712)))))))

def mortiseref07_state_stored.m (K : Nat) (s1697 : T_mortiseref07_state) : Res (Int × Int × (List Int)) :=
  (mortiseref05_Reader_Bytes.m K s1697.r_ (4 : Int)).bind fun (x1750, x1751, at_1752) =>
  cond (x1751 != (0 : Int))
    (
    .ok (x1751, at_1752, s1697.out_))
    (
    chk (inb (0 : Int) x1750.length) <|
    chk (inb (1 : Int) x1750.length) <|
    lt ((w64 ((wr .i64 ((rd x1750 (0 : Int)).toNat : Int)) + (w64 ((256 : Int) * (wr .i64 ((rd x1750 (1 : Int)).toNat : Int))))))) fun (n_1760 : Int) =>
    chk (inb (2 : Int) x1750.length) <|
    chk (inb (3 : Int) x1750.length) <|
    cond ((w64 ((wr .i64 ((rd x1750 (2 : Int)).toNat : Int)) + (w64 ((256 : Int) * (wr .i64 ((rd x1750 (3 : Int)).toNat : Int)))))) != (w64 ((65535 : Int) - n_1760)))
      (
      .ok ((3 : Int), at_1752, s1697.out_))
      (
      (mortiseref05_Reader_Bytes.m K (T_mortiseref05_Reader.mk s1697.r_.S_ at_1752) n_1760).bind fun (x1767, x1768, at_1769) =>
      cond (x1768 != (0 : Int))
        (
        .ok (x1768, at_1769, s1697.out_))
        (
        cond (decide (n_1760 > (w64 (s1697.limit_ - (s1697.out_.length : Int)))))
          (
          .ok ((11 : Int), at_1769, s1697.out_))
          (
          chk (room (s1697.out_.length + x1767.length) 1) <|
          lt (s1697.out_ ++ x1767.map ofb) fun (zs1779 : (List Int)) =>
          .ok ((0 : Int), at_1769, zs1779)))))

def mortiseref07_Fixed.l3 (K : Nat) (l_1875 : (List Int)) : Nat → (List Int) → Int → Res ((List Int) × (List Int))
  | 0, _, _ => .fail
  | k + 1, d1898, i1901 =>
    cond (decide (i1901 < (32 : Int)))
      (
      chk (inb i1901 d1898.length) <|
      lt (d1898.set (Int.toNat i1901) (5 : Int)) fun (zs1907 : (List Int)) =>
      lt ((w64 (i1901 + (1 : Int)))) fun (i1909 : Int) =>
      mortiseref07_Fixed.l3 K l_1875 k zs1907 i1909)
      (
      .ok (l_1875, d1898))

def mortiseref07_Fixed.j2 (K : Nat)  (l_1875 : (List Int)) : Res ((List Int) × (List Int)) :=
  chk (decide (0 ≤ (32 : Int)) && room (Int.toNat (32 : Int)) 8) <|
  lt (List.replicate (Int.toNat (32 : Int)) (0 : Int)) fun (zs1884 : (List Int)) =>
  mortiseref07_Fixed.l3 K l_1875 K zs1884 (0 : Int)

def mortiseref07_Fixed.l1 (K : Nat)  : Nat → (List Int) → Int → Res ((List Int) × (List Int))
  | 0, _, _ => .fail
  | k + 1, l_1846, i1849 =>
    cond (decide (i1849 < (288 : Int)))
      (
      lt (((decide (i1849 < (144 : Int))) || (decide (i1849 > (279 : Int))))) fun (v1852 : Bool) =>
      cond v1852
        (
        chk (inb i1849 l_1846.length) <|
        lt (l_1846.set (Int.toNat i1849) (8 : Int)) fun (zs1857 : (List Int)) =>
        lt ((w64 (i1849 + (1 : Int)))) fun (i1859 : Int) =>
        mortiseref07_Fixed.l1 K k zs1857 i1859)
        (
        lt ((decide (i1849 < (256 : Int)))) fun (v1860 : Bool) =>
        cond v1860
          (
          chk (inb i1849 l_1846.length) <|
          lt (l_1846.set (Int.toNat i1849) (9 : Int)) fun (zs1865 : (List Int)) =>
          lt ((w64 (i1849 + (1 : Int)))) fun (i1867 : Int) =>
          mortiseref07_Fixed.l1 K k zs1865 i1867)
          (
          chk (inb i1849 l_1846.length) <|
          lt (l_1846.set (Int.toNat i1849) (7 : Int)) fun (zs1871 : (List Int)) =>
          lt ((w64 (i1849 + (1 : Int)))) fun (i1873 : Int) =>
          mortiseref07_Fixed.l1 K k zs1871 i1873)))
      (
      mortiseref07_Fixed.j2 K l_1846)

def mortiseref07_Fixed.m (K : Nat) : Res ((List Int) × (List Int)) :=
  chk (decide (0 ≤ (288 : Int)) && room (Int.toNat (288 : Int)) 8) <|
  lt (List.replicate (Int.toNat (288 : Int)) (0 : Int)) fun (zs1816 : (List Int)) =>
  mortiseref07_Fixed.l1 K K zs1816 (0 : Int)

def mortiseref06_Check.j4 (K : Nat) (sum1972 : Int) (v1980 : Bool) : Res Int :=
  cond (v1980 || (sum1972 == (32768 : Int)))
    (
    .ok (0 : Int))
    (
    .ok (3 : Int))

def mortiseref06_Check.j3 (K : Nat) (sum1972 : Int) (v1978 : Bool) : Res Int :=
  mortiseref06_Check.j4 K sum1972 v1978

def mortiseref06_Check.j2 (K : Nat)  (sum1972 : Int) (n_1973 : Int) (last1974 : Int) : Res Int :=
  cond (n_1973 == (0 : Int))
    (
    mortiseref06_Check.j4 K sum1972 true)
    (
    cond (n_1973 == (1 : Int))
      (
      mortiseref06_Check.j3 K sum1972 (last1974 == (1 : Int)))
      (
      mortiseref06_Check.j3 K sum1972 false))

def mortiseref06_Check.l1 (K : Nat) (l_1950 : List Int) : Nat → Int → Int → Int → Int → Res Int
  | 0, _, _, _, _ => .fail
  | k + 1, sum1956, n_1957, last1958, i1959 =>
    cond (decide (i1959 < (l_1950.length : Int)))
      (
      chk (inb i1959 l_1950.length) <|
      cond ((decide ((rd l_1950 i1959) < (0 : Int))) || (decide ((rd l_1950 i1959) > (15 : Int))))
        (
        .ok (1 : Int))
        (
        cond (decide ((rd l_1950 i1959) > (0 : Int)))
          (
          chk (decide (0 ≤ (wr .u64 (w64 ((15 : Int) - (rd l_1950 i1959)))))) <|
          lt ((w64 (sum1956 + (ishl .i64 (1 : Int) (wr .u64 (w64 ((15 : Int) - (rd l_1950 i1959)))))))) fun (sum1966 : Int) =>
          lt ((w64 (n_1957 + (1 : Int)))) fun (n_1967 : Int) =>
          lt ((rd l_1950 i1959)) fun (last1968 : Int) =>
          lt ((w64 (i1959 + (1 : Int)))) fun (i1969 : Int) =>
          mortiseref06_Check.l1 K l_1950 k sum1966 n_1967 last1968 i1969)
          (
          lt ((w64 (i1959 + (1 : Int)))) fun (i1970 : Int) =>
          mortiseref06_Check.l1 K l_1950 k sum1956 n_1957 last1958 i1970)))
      (
      mortiseref06_Check.j2 K sum1956 n_1957 last1958)

def mortiseref06_Check.m (K : Nat) (l_1950 : List Int) : Res Int :=
  cond (decide ((l_1950.length : Int) > (320 : Int)))
    (
    .ok (1 : Int))
    (
    mortiseref06_Check.l1 K l_1950 K (0 : Int) (0 : Int) (0 : Int) (0 : Int))

def mortiseref06_Codes.l2 (K : Nat) (g1 : (List Int) → Int → Int → Res ((List Int) × Int)) (l_1943 : List Int) (length2047 : Int) : Nat → (List Int) → Int → Int → Res ((List Int) × Int)
  | 0, _, _, _ => .fail
  | k + 1, out2071, code2074, i2075 =>
    cond (decide (i2075 < (l_1943.length : Int)))
      (
      chk (inb i2075 l_1943.length) <|
      cond ((rd l_1943 i2075) == length2047)
        (
        chk (inb i2075 out2071.length) <|
        lt (out2071.set (Int.toNat i2075) code2074) fun (zs2084 : (List Int)) =>
        lt ((w64 (code2074 + (1 : Int)))) fun (code2086 : Int) =>
        lt ((w64 (i2075 + (1 : Int)))) fun (i2087 : Int) =>
        mortiseref06_Codes.l2 K g1 l_1943 length2047 k zs2084 code2086 i2087)
        (
        lt ((w64 (i2075 + (1 : Int)))) fun (i2088 : Int) =>
        mortiseref06_Codes.l2 K g1 l_1943 length2047 k out2071 code2074 i2088))
      (
      lt ((w64 (length2047 + (1 : Int)))) fun (length2078 : Int) =>
      g1 out2071 code2074 length2078)

def mortiseref06_Codes.l1 (K : Nat) (l_1943 : List Int) : Nat → (List Int) → Int → Int → Res ((List Int) × Int)
  | 0, _, _, _ => .fail
  | k + 1, out2043, code2046, length2047 =>
    cond (decide (length2047 ≤ (15 : Int)))
      (
      lt ((w64 (code2046 * (2 : Int)))) fun (code2050 : Int) =>
      mortiseref06_Codes.l2 K (mortiseref06_Codes.l1 K l_1943 k) l_1943 length2047 K out2043 code2050 (0 : Int))
      (
      .ok (out2043, (0 : Int)))

def mortiseref06_Codes.m (K : Nat) (l_1943 : List Int) : Res ((List Int) × Int) :=
  (mortiseref06_Check.m K l_1943).bind fun x1984 =>
  cond (x1984 != (0 : Int))
    (
    .ok (([] : List Int), x1984))
    (
    chk (decide (0 ≤ (l_1943.length : Int)) && room (Int.toNat (l_1943.length : Int)) 8) <|
    lt (List.replicate (Int.toNat (l_1943.length : Int)) (0 : Int)) fun (zs1993 : (List Int)) =>
    mortiseref06_Codes.l1 K l_1943 K zs1993 (0 : Int) (1 : Int))

def mortiseref07_coded.m (K : Nat) (l_1931 : List Int) : Res ((List Int) × Bool) :=
  (mortiseref06_Codes.m K l_1931).bind fun (x2099, x2101) =>
  lt ((x2101 == (0 : Int))) fun (v2105 : Bool) =>
  .ok (x2099, v2105)

def mortiseref06_Next.j3 (K : Nat) (g1 : Int → Int → Int → Res (Int × Int × Int)) (r2188 : T_mortiseref05_Reader) (at_2237 : Int) (v2240 : Int) (length2241 : Int) (begins2265 : Bool) : Res (Int × Int × Int) :=
  cond (!begins2265)
    (
    .ok ((0 : Int), (3 : Int), r2188.At_))
    (
    (mortiseref05_Reader_Bits.m K (T_mortiseref05_Reader.mk r2188.S_ at_2237) (1 : Int)).bind fun (x2270, x2271, at_2272) =>
    cond (x2271 != (0 : Int))
      (
      .ok ((0 : Int), x2271, r2188.At_))
      (
      lt ((w64 ((w64 ((2 : Int) * v2240)) + (wr .i64 x2270)))) fun (v2278 : Int) =>
      lt ((w64 (length2241 + (1 : Int)))) fun (length2279 : Int) =>
      g1 at_2272 v2278 length2279))

def mortiseref06_Next.l2 (K : Nat) (g1 : Int → Int → Int → Res (Int × Int × Int)) (l_2178 : List Int) (codes2183 : List Int) (r2188 : T_mortiseref05_Reader) (at_2237 : Int) (v2240 : Int) (length2241 : Int) : Nat → Bool → Int → Res (Int × Int × Int)
  | 0, _, _ => .fail
  | k + 1, begins2244, i2245 =>
    cond (decide (i2245 < (l_2178.length : Int)))
      (
      chk (inb i2245 l_2178.length) <|
      chk (imp true (((rd l_2178 i2245) == length2241) && (decide (length2241 > (0 : Int)))) (inb i2245 codes2183.length)) <|
      cond ((((rd l_2178 i2245) == length2241) && (decide (length2241 > (0 : Int)))) && ((rd codes2183 i2245) == v2240))
        (
        .ok (i2245, (0 : Int), at_2237))
        (
        cond begins2244
          (
          lt ((w64 (i2245 + (1 : Int)))) fun (i2254 : Int) =>
          mortiseref06_Next.l2 K g1 l_2178 codes2183 r2188 at_2237 v2240 length2241 k true i2254)
          (
          cond (decide ((rd l_2178 i2245) > length2241))
            (
            chk (inb i2245 codes2183.length) <|
            chk (decide (0 ≤ (wr .u64 (w64 ((rd l_2178 i2245) - length2241))))) <|
            lt (((ishr .i64 (rd codes2183 i2245) (wr .u64 (w64 ((rd l_2178 i2245) - length2241)))) == v2240)) fun (begins2260 : Bool) =>
            lt ((w64 (i2245 + (1 : Int)))) fun (i2262 : Int) =>
            mortiseref06_Next.l2 K g1 l_2178 codes2183 r2188 at_2237 v2240 length2241 k begins2260 i2262)
            (
            lt ((w64 (i2245 + (1 : Int)))) fun (i2263 : Int) =>
            mortiseref06_Next.l2 K g1 l_2178 codes2183 r2188 at_2237 v2240 length2241 k false i2263))))
      (
      mortiseref06_Next.j3 K (g1) r2188 at_2237 v2240 length2241 begins2244)

def mortiseref06_Next.j4 (K : Nat) (r2188 : T_mortiseref05_Reader) (at_2281 : Int) : Res (Int × Int × Int) :=
  .ok ((0 : Int), (3 : Int), r2188.At_)

def mortiseref06_Next.l1 (K : Nat) (l_2178 : List Int) (codes2183 : List Int) (r2188 : T_mortiseref05_Reader) : Nat → Int → Int → Int → Res (Int × Int × Int)
  | 0, _, _, _ => .fail
  | k + 1, at_2237, v2240, length2241 =>
    cond (decide (length2241 ≤ (15 : Int)))
      (
      mortiseref06_Next.l2 K (mortiseref06_Next.l1 K l_2178 codes2183 r2188 k) l_2178 codes2183 r2188 at_2237 v2240 length2241 K false (0 : Int))
      (
      mortiseref06_Next.j4 K r2188 at_2237)

def mortiseref06_Next.m (K : Nat) (l_2178 : List Int) (codes2183 : List Int) (r2188 : T_mortiseref05_Reader) : Res (Int × Int × Int) :=
  mortiseref06_Next.l1 K l_2178 codes2183 r2188 K r2188.At_ (0 : Int) (0 : Int)

def mortiseref07_Length.m (K : Nat) (symbol2338 : Int) : Res (Int × Int) :=
  cond (symbol2338 == (285 : Int))
    (
    .ok ((258 : Int), (0 : Int)))
    (
    lt ((w64 (symbol2338 - (257 : Int)))) fun (k_2340 : Int) =>
    cond (decide (k_2340 < (8 : Int)))
      (
      lt ((w64 ((3 : Int) + k_2340))) fun (v2342 : Int) =>
      .ok (v2342, (0 : Int)))
      (
      lt ((w64 ((iquo .i64 k_2340 (4 : Int)) - (1 : Int)))) fun (more2343 : Int) =>
      chk (decide (0 ≤ (wr .u64 more2343))) <|
      lt ((w64 ((3 : Int) + (ishl .i64 (w64 ((4 : Int) + (irem k_2340 (4 : Int)))) (wr .u64 more2343))))) fun (v2345 : Int) =>
      .ok (v2345, more2343)))

def mortiseref07_Distance.m (K : Nat) (symbol2363 : Int) : Res (Int × Int) :=
  cond (decide (symbol2363 < (4 : Int)))
    (
    lt ((w64 ((1 : Int) + symbol2363))) fun (v2365 : Int) =>
    .ok (v2365, (0 : Int)))
    (
    lt ((w64 ((iquo .i64 symbol2363 (2 : Int)) - (1 : Int)))) fun (more2366 : Int) =>
    chk (decide (0 ≤ (wr .u64 more2366))) <|
    lt ((w64 ((1 : Int) + (ishl .i64 (w64 ((2 : Int) + (irem symbol2363 (2 : Int)))) (wr .u64 more2366))))) fun (v2368 : Int) =>
    .ok (v2368, more2366))

def mortiseref07_state_match.l1 (K : Nat) (x2350 : Int) (x2373 : Int) (at_2375 : Int) : Nat → (List Int) → Int → Res (Int × Int × (List Int))
  | 0, _, _ => .fail
  | k + 1, out2409, i2414 =>
    cond (decide (i2414 < x2350))
      (
      chk (inb (w64 ((out2409.length : Int) - x2373)) out2409.length) <|
      chk (room (out2409.length + ([(rd out2409 (w64 ((out2409.length : Int) - x2373)))] : List Int).length) 1) <|
      lt (out2409 ++ ([(rd out2409 (w64 ((out2409.length : Int) - x2373)))] : List Int)) fun (zs2428 : (List Int)) =>
      lt ((w64 (i2414 + (1 : Int)))) fun (i2431 : Int) =>
      mortiseref07_state_match.l1 K x2350 x2373 at_2375 k zs2428 i2431)
      (
      .ok ((0 : Int), at_2375, out2409))

def mortiseref07_state_match.m (K : Nat) (s2313 : T_mortiseref07_state) (symbol2324 : Int) (distances2325 : T_mortiseref07_code) : Res (Int × Int × (List Int)) :=
  cond (decide (symbol2324 > (285 : Int)))
    (
    .ok ((3 : Int), s2313.r_.At_, s2313.out_))
    (
    (mortiseref07_Length.m K symbol2324).bind fun (x2348, x2349) =>
    (mortiseref07_state_bits.m K s2313 x2349 x2348).bind fun (x2350, x2351, at_2352) =>
    cond (x2351 != (0 : Int))
      (
      .ok (x2351, at_2352, s2313.out_))
      (
      (mortiseref06_Next.m K distances2325.l_ distances2325.codes_ (T_mortiseref05_Reader.mk s2313.r_.S_ at_2352)).bind fun (x2356, x2357, at_2358) =>
      cond (x2357 != (0 : Int))
        (
        .ok (x2357, at_2358, s2313.out_))
        (
        cond (decide (x2356 > (29 : Int)))
          (
          .ok ((3 : Int), at_2358, s2313.out_))
          (
          (mortiseref07_Distance.m K x2356).bind fun (x2371, x2372) =>
          (mortiseref07_state_bits.m K (T_mortiseref07_state.mk (T_mortiseref05_Reader.mk s2313.r_.S_ at_2358) s2313.out_ s2313.limit_) x2372 x2371).bind fun (x2373, x2374, at_2375) =>
          cond (x2374 != (0 : Int))
            (
            .ok (x2374, at_2375, s2313.out_))
            (
            cond (decide (x2373 > (s2313.out_.length : Int)))
              (
              .ok ((3 : Int), at_2375, s2313.out_))
              (
              cond (decide (x2350 > (w64 (s2313.limit_ - (s2313.out_.length : Int)))))
                (
                .ok ((11 : Int), at_2375, s2313.out_))
                (
                mortiseref07_state_match.l1 K x2350 x2373 at_2375 K s2313.out_ (0 : Int))))))))

def mortiseref07_state_symbols.l1 (K : Nat) (s2142 : T_mortiseref07_state) (literals2153 : T_mortiseref07_code) (distances2162 : T_mortiseref07_code) : Nat → Int → (List Int) → Res (Int × Int × (List Int))
  | 0, _, _ => .fail
  | k + 1, at_2466, out2471 =>
    (mortiseref06_Next.m K literals2153.l_ literals2153.codes_ (T_mortiseref05_Reader.mk s2142.r_.S_ at_2466)).bind fun (x2477, x2478, at_2479) =>
    cond (x2478 != (0 : Int))
      (
      .ok (x2478, at_2479, out2471))
      (
      cond (x2477 == (256 : Int))
        (
        .ok ((0 : Int), at_2479, out2471))
        (
        cond (decide (x2477 < (256 : Int)))
          (
          cond (decide ((out2471.length : Int) ≥ s2142.limit_))
            (
            .ok ((11 : Int), at_2479, out2471))
            (
            chk (room (out2471.length + ([(wr .u8 x2477)] : List Int).length) 1) <|
            lt (out2471 ++ ([(wr .u8 x2477)] : List Int)) fun (zs2495 : (List Int)) =>
            mortiseref07_state_symbols.l1 K s2142 literals2153 distances2162 k at_2479 zs2495))
          (
          (mortiseref07_state_match.m K (T_mortiseref07_state.mk (T_mortiseref05_Reader.mk s2142.r_.S_ at_2479) out2471 s2142.limit_) x2477 distances2162).bind fun (x2498, at_2499, out2503) =>
          cond (x2498 != (0 : Int))
            (
            .ok (x2498, at_2499, out2503))
            (
            mortiseref07_state_symbols.l1 K s2142 literals2153 distances2162 k at_2499 out2503))))

def mortiseref07_state_symbols.m (K : Nat) (s2142 : T_mortiseref07_state) (literals2153 : T_mortiseref07_code) (distances2162 : T_mortiseref07_code) : Res (Int × Int × (List Int)) :=
  mortiseref07_state_symbols.l1 K s2142 literals2153 distances2162 K s2142.r_.At_ s2142.out_

def mortiseref07_Order.m (K : Nat) : Res Unit :=
  .ok ()

def mortiseref07_state_head.j2 (K : Nat) (x2565 : Int) (x2577 : Int) (at_2691 : Int) (l_2694 : (List Int)) (any2697 : Bool) : Res (Int × Int × (List Int) × (List Int) × Int × Int) :=
  (mortiseref07_coded.m K l_2694).bind fun (codes2701, x2703) =>
  cond ((!x2703) || (!any2697))
    (
    .ok ((0 : Int), (0 : Int), ([] : List Int), ([] : List Int), (3 : Int), at_2691))
    (
    .ok (x2565, x2577, l_2694, codes2701, (0 : Int), at_2691))

def mortiseref07_state_head.l1 (K : Nat) (s2547 : T_mortiseref07_state) (x2565 : Int) (x2577 : Int) (x2589 : Int) : Nat → Int → (List Int) → Bool → Int → Res (Int × Int × (List Int) × (List Int) × Int × Int)
  | 0, _, _, _, _ => .fail
  | k + 1, at_2660, l_2663, any2666, i2667 =>
    cond (decide (i2667 < x2589))
      (
      (mortiseref07_state_bits.m K (T_mortiseref07_state.mk (T_mortiseref05_Reader.mk s2547.r_.S_ at_2660) s2547.out_ s2547.limit_) (3 : Int) (0 : Int)).bind fun (x2670, x2671, at_2672) =>
      cond (x2671 != (0 : Int))
        (
        .ok ((0 : Int), (0 : Int), ([] : List Int), ([] : List Int), x2671, at_2672))
        (
        chk (inb i2667 ([(16 : Int), (17 : Int), (18 : Int), (0 : Int), (8 : Int), (7 : Int), (9 : Int), (6 : Int), (10 : Int), (5 : Int), (11 : Int), (4 : Int), (12 : Int), (3 : Int), (13 : Int), (2 : Int), (14 : Int), (1 : Int), (15 : Int)] : List Int).length) <|
        chk (inb (rd ([(16 : Int), (17 : Int), (18 : Int), (0 : Int), (8 : Int), (7 : Int), (9 : Int), (6 : Int), (10 : Int), (5 : Int), (11 : Int), (4 : Int), (12 : Int), (3 : Int), (13 : Int), (2 : Int), (14 : Int), (1 : Int), (15 : Int)] : List Int) i2667) l_2663.length) <|
        lt (l_2663.set (Int.toNat (rd ([(16 : Int), (17 : Int), (18 : Int), (0 : Int), (8 : Int), (7 : Int), (9 : Int), (6 : Int), (10 : Int), (5 : Int), (11 : Int), (4 : Int), (12 : Int), (3 : Int), (13 : Int), (2 : Int), (14 : Int), (1 : Int), (15 : Int)] : List Int) i2667)) x2670) fun (zs2686 : (List Int)) =>
        lt ((any2666 || (decide (x2670 > (0 : Int))))) fun (any2688 : Bool) =>
        lt ((w64 (i2667 + (1 : Int)))) fun (i2689 : Int) =>
        mortiseref07_state_head.l1 K s2547 x2565 x2577 x2589 k at_2672 zs2686 any2688 i2689))
      (
      mortiseref07_state_head.j2 K x2565 x2577 at_2660 l_2663 any2666)

def mortiseref07_state_head.m (K : Nat) (s2547 : T_mortiseref07_state) : Res (Int × Int × (List Int) × (List Int) × Int × Int) :=
  (mortiseref07_state_bits.m K s2547 (5 : Int) (257 : Int)).bind fun (x2565, x2566, at_2567) =>
  cond (x2566 != (0 : Int))
    (
    .ok ((0 : Int), (0 : Int), ([] : List Int), ([] : List Int), x2566, at_2567))
    (
    (mortiseref07_state_bits.m K (T_mortiseref07_state.mk (T_mortiseref05_Reader.mk s2547.r_.S_ at_2567) s2547.out_ s2547.limit_) (5 : Int) (1 : Int)).bind fun (x2577, x2578, at_2579) =>
    cond (x2578 != (0 : Int))
      (
      .ok ((0 : Int), (0 : Int), ([] : List Int), ([] : List Int), x2578, at_2579))
      (
      (mortiseref07_state_bits.m K (T_mortiseref07_state.mk (T_mortiseref05_Reader.mk s2547.r_.S_ at_2579) s2547.out_ s2547.limit_) (4 : Int) (4 : Int)).bind fun (x2589, x2590, at_2591) =>
      cond (x2590 != (0 : Int))
        (
        .ok ((0 : Int), (0 : Int), ([] : List Int), ([] : List Int), x2590, at_2591))
        (
        cond ((decide (x2565 > (286 : Int))) || (decide (x2577 > (30 : Int))))
          (
          .ok ((0 : Int), (0 : Int), ([] : List Int), ([] : List Int), (3 : Int), at_2591))
          (
          chk (decide (0 ≤ (19 : Int)) && room (Int.toNat (19 : Int)) 8) <|
          lt (List.replicate (Int.toNat (19 : Int)) (0 : Int)) fun (zs2613 : (List Int)) =>
          (mortiseref07_Order.m K).bind fun _ =>
          mortiseref07_state_head.l1 K s2547 x2565 x2577 x2589 K at_2591 zs2613 false (0 : Int)))))

def mortiseref07_state_row.l3 (K : Nat) (g1 : Int → (List Int) → Res ((List Int) × Int × Int)) (at_2952 : Int) (value2956 : Int) (times2957 : Int) : Nat → (List Int) → Int → Res ((List Int) × Int × Int)
  | 0, _, _ => .fail
  | k + 1, out2987, i2990 =>
    cond (decide (i2990 < times2957))
      (
      chk (room (out2987.length + ([value2956] : List Int).length) 8) <|
      lt (out2987 ++ ([value2956] : List Int)) fun (zs3002 : (List Int)) =>
      lt ((w64 (i2990 + (1 : Int)))) fun (i3003 : Int) =>
      mortiseref07_state_row.l3 K g1 at_2952 value2956 times2957 k zs3002 i3003)
      (
      g1 at_2952 out2987)

def mortiseref07_state_row.j2 (K : Nat) (g1 : Int → (List Int) → Res ((List Int) × Int × Int)) (n_2776 : Int) (out2904 : (List Int)) (at_2952 : Int) (e_2955 : Int) (value2956 : Int) (times2957 : Int) : Res ((List Int) × Int × Int) :=
  cond (e_2955 != (0 : Int))
    (
    .ok (([] : List Int), e_2955, at_2952))
    (
    cond (decide (times2957 > (w64 (n_2776 - (out2904.length : Int)))))
      (
      .ok (([] : List Int), (3 : Int), at_2952))
      (
      mortiseref07_state_row.l3 K (g1) at_2952 value2956 times2957 K out2904 (0 : Int)))

def mortiseref07_state_row.l1 (K : Nat) (s2765 : T_mortiseref07_state) (n_2776 : Int) (c_2777 : T_mortiseref07_code) : Nat → Int → (List Int) → Res ((List Int) × Int × Int)
  | 0, _, _ => .fail
  | k + 1, at_2899, out2904 =>
    cond (decide ((out2904.length : Int) < n_2776))
      (
      (mortiseref06_Next.m K c_2777.l_ c_2777.codes_ (T_mortiseref05_Reader.mk s2765.r_.S_ at_2899)).bind fun (x2909, x2910, at_2911) =>
      cond (x2910 != (0 : Int))
        (
        .ok (([] : List Int), x2910, at_2911))
        (
        cond (decide (x2909 < (16 : Int)))
          (
          chk (room (out2904.length + ([x2909] : List Int).length) 8) <|
          lt (out2904 ++ ([x2909] : List Int)) fun (zs2927 : (List Int)) =>
          mortiseref07_state_row.l1 K s2765 n_2776 c_2777 k at_2911 zs2927)
          (
          lt ((x2909 == (16 : Int))) fun (v2928 : Bool) =>
          cond v2928
            (
            cond ((out2904.length : Int) == (0 : Int))
              (
              .ok (([] : List Int), (3 : Int), at_2911))
              (
              chk (inb (w64 ((out2904.length : Int) - (1 : Int))) out2904.length) <|
              lt ((rd out2904 (w64 ((out2904.length : Int) - (1 : Int))))) fun (value2934 : Int) =>
              (mortiseref07_state_bits.m K (T_mortiseref07_state.mk (T_mortiseref05_Reader.mk s2765.r_.S_ at_2911) s2765.out_ s2765.limit_) (2 : Int) (3 : Int)).bind fun (x2935, x2936, at_2937) =>
              mortiseref07_state_row.j2 K (mortiseref07_state_row.l1 K s2765 n_2776 c_2777 k) n_2776 out2904 at_2937 x2936 value2934 x2935))
            (
            lt ((x2909 == (17 : Int))) fun (v2940 : Bool) =>
            cond v2940
              (
              (mortiseref07_state_bits.m K (T_mortiseref07_state.mk (T_mortiseref05_Reader.mk s2765.r_.S_ at_2911) s2765.out_ s2765.limit_) (3 : Int) (3 : Int)).bind fun (x2942, x2943, at_2944) =>
              mortiseref07_state_row.j2 K (mortiseref07_state_row.l1 K s2765 n_2776 c_2777 k) n_2776 out2904 at_2944 x2943 (0 : Int) x2942)
              (
              (mortiseref07_state_bits.m K (T_mortiseref07_state.mk (T_mortiseref05_Reader.mk s2765.r_.S_ at_2911) s2765.out_ s2765.limit_) (7 : Int) (11 : Int)).bind fun (x2947, x2948, at_2949) =>
              mortiseref07_state_row.j2 K (mortiseref07_state_row.l1 K s2765 n_2776 c_2777 k) n_2776 out2904 at_2949 x2948 (0 : Int) x2947)))))
      (
      .ok (out2904, (0 : Int), at_2899))

def mortiseref07_state_row.m (K : Nat) (s2765 : T_mortiseref07_state) (n_2776 : Int) (c_2777 : T_mortiseref07_code) : Res ((List Int) × Int × Int) :=
  mortiseref07_state_row.l1 K s2765 n_2776 c_2777 K s2765.r_.At_ ([] : List Int)

def mortiseref07_state_dynamic.m (K : Nat) (s2536 : T_mortiseref07_state) : Res (Int × Int × (List Int)) :=
  (mortiseref07_state_head.m K s2536).bind fun (x2739, x2740, l_2743, codes2747, x2749, at_2750) =>
  cond (x2749 != (0 : Int))
    (
    .ok (x2749, at_2750, s2536.out_))
    (
    (mortiseref07_state_row.m K (T_mortiseref07_state.mk (T_mortiseref05_Reader.mk s2536.r_.S_ at_2750) s2536.out_ s2536.limit_) (w64 (x2739 + x2740)) (T_mortiseref07_code.mk l_2743 codes2747)).bind fun (x3017, x3019, at_3020) =>
    cond (x3019 != (0 : Int))
      (
      .ok (x3019, at_3020, s2536.out_))
      (
      chk (subok (0 : Int) x2739 x3017.length) <|
      lt (sub x3017 (0 : Int) x2739) fun (zs3026 : (List Int)) =>
      (mortiseref07_coded.m K zs3026).bind fun (codes3033, x3035) =>
      chk (subok x2739 (x3017.length : Int) x3017.length) <|
      lt (sub x3017 x2739 (x3017.length : Int)) fun (zs3047 : (List Int)) =>
      (mortiseref07_coded.m K zs3047).bind fun (codes3054, x3056) =>
      chk (imp false ((!x3035) || (!x3056)) (inb (256 : Int) x3017.length)) <|
      cond (((!x3035) || (!x3056)) || ((rd x3017 (256 : Int)) == (0 : Int)))
        (
        .ok ((3 : Int), at_3020, s2536.out_))
        (
        (mortiseref07_state_symbols.m K (T_mortiseref07_state.mk (T_mortiseref05_Reader.mk s2536.r_.S_ at_3020) s2536.out_ s2536.limit_) (T_mortiseref07_code.mk zs3026 codes3033) (T_mortiseref07_code.mk zs3047 codes3054)).bind fun (x3071, at_3072, out3076) =>
        .ok (x3071, at_3072, out3076))))

def mortiseref07_state_block.m (K : Nat) (s1620 : T_mortiseref07_state) : Res (Bool × Int × Int × (List Int)) :=
  (mortiseref07_state_bits.m K s1620 (1 : Int) (0 : Int)).bind fun (x1683, x1684, at_1685) =>
  cond (x1684 != (0 : Int))
    (
    .ok (false, x1684, at_1685, s1620.out_))
    (
    (mortiseref07_state_bits.m K (T_mortiseref07_state.mk (T_mortiseref05_Reader.mk s1620.r_.S_ at_1685) s1620.out_ s1620.limit_) (2 : Int) (0 : Int)).bind fun (x1689, x1690, at_1691) =>
    cond (x1690 != (0 : Int))
      (
      .ok (false, x1690, at_1691, s1620.out_))
      (
      lt ((x1689 == (0 : Int))) fun (v1695 : Bool) =>
      cond v1695
        (
        (mortiseref07_state_stored.m K (T_mortiseref07_state.mk (T_mortiseref05_Reader.mk s1620.r_.S_ at_1691) s1620.out_ s1620.limit_)).bind fun (x1793, at_1794, out1798) =>
        lt ((x1683 == (1 : Int))) fun (v1804 : Bool) =>
        .ok (v1804, x1793, at_1794, out1798))
        (
        lt ((x1689 == (1 : Int))) fun (v1805 : Bool) =>
        cond v1805
          (
          (mortiseref07_Fixed.m K).bind fun (x1923, x1927) =>
          (mortiseref07_coded.m K x1923).bind fun (codes2114, x2116) =>
          (mortiseref07_coded.m K x1927).bind fun (codes2129, x2131) =>
          (mortiseref07_state_symbols.m K (T_mortiseref07_state.mk (T_mortiseref05_Reader.mk s1620.r_.S_ at_1691) s1620.out_ s1620.limit_) (T_mortiseref07_code.mk x1923 codes2114) (T_mortiseref07_code.mk x1927 codes2129)).bind fun (x2522, at_2523, out2527) =>
          lt ((x1683 == (1 : Int))) fun (v2533 : Bool) =>
          .ok (v2533, x2522, at_2523, out2527))
          (
          lt ((x1689 == (2 : Int))) fun (v2534 : Bool) =>
          cond v2534
            (
            (mortiseref07_state_dynamic.m K (T_mortiseref07_state.mk (T_mortiseref05_Reader.mk s1620.r_.S_ at_1691) s1620.out_ s1620.limit_)).bind fun (x3093, at_3094, out3098) =>
            lt ((x1683 == (1 : Int))) fun (v3104 : Bool) =>
            .ok (v3104, x3093, at_3094, out3098))
            (
            .ok (false, (3 : Int), at_1691, s1620.out_))))))

def mortiseref07_Inflate.l1 (K : Nat) (t3117 : List UInt8) (limit3118 : Int) : Nat → Int → (List Int) → Res ((List UInt8) × Int × Int)
  | 0, _, _ => .fail
  | k + 1, at_3157, out3162 =>
    (mortiseref07_state_block.m K (T_mortiseref07_state.mk (T_mortiseref05_Reader.mk t3117 at_3157) out3162 limit3118)).bind fun (x3168, x3169, at_3170, out3174) =>
    cond (x3169 != (0 : Int))
      (
      .ok (([] : List UInt8), (0 : Int), x3169))
      (
      cond x3168
        (
        lt ((out3174.map tob)) fun (v3182 : List UInt8) =>
        lt ((iquo .i64 (w64 (at_3170 + (7 : Int))) (8 : Int))) fun (v3184 : Int) =>
        .ok (v3182, v3184, (0 : Int)))
        (
        mortiseref07_Inflate.l1 K t3117 limit3118 k at_3170 out3174))

def mortiseref07_Inflate.m (K : Nat) (t3117 : List UInt8) (limit3118 : Int) : Res ((List UInt8) × Int × Int) :=
  cond ((decide (limit3118 < (0 : Int))) || (decide (limit3118 > (1073741824 : Int))))
    (
    .ok (([] : List UInt8), (0 : Int), (1 : Int)))
    (
    mortiseref07_Inflate.l1 K t3117 limit3118 K (0 : Int) ([] : List Int))

def bits_New.m (K : Nat) (s3221 : List UInt8) : Res Unit :=
  .ok ()

def bits_Reader_At.m (K : Nat) (r3294 : T_bits_Reader) : Res Unit :=
  .ok ()

def inflate_Inflate.h1 (K : Nat)  (v3213 : Value) : Res ((List UInt8) × Int × Int) :=
  unw (asE ty_inflate_failed .i64 v3213) fun e3211 =>
  .ok (([] : List UInt8), (0 : Int), e3211)

def inflate_Inflate.j4 (K : Nat) (s3190 : List UInt8) (at_3283 : Int) (out3288 : (List Int)) : Res ((List UInt8) × Int × Int) :=
  (bits_Reader_At.m K (T_bits_Reader.mk (T_bits_place.mk at_3283) s3190)).bind fun _ =>
  .ok ((out3288.map tob), (iquo .i64 (w64 (at_3283 + (7 : Int))) (8 : Int)), (0 : Int))

def inflate_Inflate.l3 (K : Nat) (s3190 : List UInt8) (limit3191 : Int) : Nat → Int → (List Int) → Res ((List UInt8) × Int × Int)
  | 0, _, _ => .fail
  | k + 1, at_3259, out3264 =>
    (inflate_reader_block.m K (T_inflate_reader.mk (T_bits_Reader.mk (T_bits_place.mk at_3259) s3190) out3264 limit3191)).bind fun (x3270, at_3271, out3275) =>
    cond (!x3270)
      (
      inflate_Inflate.l3 K s3190 limit3191 k at_3271 out3275)
      (
      inflate_Inflate.j4 K s3190 at_3271 out3275)

def inflate_Inflate.j2 (K : Nat) (s3190 : List UInt8) (limit3191 : Int) : Res ((List UInt8) × Int × Int) :=
  (bits_New.m K s3190).bind fun _ =>
  inflate_Inflate.l3 K s3190 limit3191 K (0 : Int) ([] : List Int)

def inflate_Inflate.m (K : Nat) (s3190 : List UInt8) (limit3191 : Int) : Res ((List UInt8) × Int × Int) :=
  cond ((decide (limit3191 < (0 : Int))) || (decide (limit3191 > (1073741824 : Int))))
    (
    .ok (([] : List UInt8), (0 : Int), (1 : Int)))
    (
    (inflate_Inflate.j2 K s3190 limit3191).catch (inflate_Inflate.h1 K))

def mortiselaw07_live.m (K : Nat) : Res Bool :=
  (inflate_Inflate.m K ([3, 0] : List UInt8) (10 : Int)).bind fun (x3311, x3312, x3313) =>
  (inflate_Inflate.m K ([1, 1, 0, 254, 255, 97, 122] : List UInt8) (10 : Int)).bind fun (x3314, x3315, x3316) =>
  (inflate_Inflate.m K ([7] : List UInt8) (10 : Int)).bind fun (x3317, x3318, x3319) =>
  (inflate_Inflate.m K ([1, 1, 0, 254, 255, 97] : List UInt8) (0 : Int)).bind fun (x3320, x3321, x3322) =>
  lt (((((((((x3311 == ([] : List UInt8)) && (x3312 == (2 : Int))) && (x3313 == (0 : Int))) && (x3314 == ([97] : List UInt8))) && (x3315 == (6 : Int))) && (x3316 == (0 : Int))) && (x3319 == (3 : Int))) && (x3322 == (11 : Int)))) fun (v3323 : Bool) =>
  .ok v3323

def mortiselaw07_InflateStored.j4 (K : Nat)  (v3455 : Bool) : Res Bool :=
  .ok v3455

def mortiselaw07_InflateStored.j3 (K : Nat) (s3308 : List UInt8) (b_3443 : (List Int)) : Res Bool :=
  (mortiseref05_Writer_String.m K (T_mortiseref05_Writer.mk b_3443)).bind fun x3449 =>
  (inflate_Inflate.m K x3449 (s3308.length : Int)).bind fun (x3450, x3451, x3452) =>
  cond (((x3450 == s3308) && (x3451 == (x3449.length : Int))) && (x3452 == (0 : Int)))
    (
    (mortiselaw07_live.m K).bind fun x3454 =>
    mortiselaw07_InflateStored.j4 K x3454)
    (
    mortiselaw07_InflateStored.j4 K false)

def mortiselaw07_InflateStored.j2 (K : Nat) (g1 : (List Int) → Int → Res Bool) (s3308 : List UInt8) (b_3388 : (List Int)) (at_3393 : Int) (n_3395 : Int) (last3397 : Int) : Res Bool :=
  (mortiseref05_Writer_Put.m K (T_mortiseref05_Writer.mk b_3388) last3397 (3 : Int)).bind fun (x3399, b_3402) =>
  (mortiseref05_Writer_Align.m K (T_mortiseref05_Writer.mk b_3402)).bind fun b_3409 =>
  (mortiseref05_Writer_Put.m K (T_mortiseref05_Writer.mk b_3409) (wr .u32 n_3395) (16 : Int)).bind fun (x3414, b_3417) =>
  (mortiseref05_Writer_Put.m K (T_mortiseref05_Writer.mk b_3417) (wr .u32 (w64 ((65535 : Int) - n_3395))) (16 : Int)).bind fun (x3422, b_3425) =>
  chk (subok at_3393 (w64 (at_3393 + n_3395)) s3308.length) <|
  (mortiseref05_Writer_Add.m K (T_mortiseref05_Writer.mk b_3425) (sub s3308 at_3393 (w64 (at_3393 + n_3395)))).bind fun b_3433 =>
  lt ((w64 (at_3393 + n_3395))) fun (at_3438 : Int) =>
  cond (last3397 == (1 : Int))
    (
    mortiselaw07_InflateStored.j3 K s3308 b_3433)
    (
    g1 b_3433 at_3438)

def mortiselaw07_InflateStored.l1 (K : Nat) (s3308 : List UInt8) (size3309 : Int) : Nat → (List Int) → Int → Res Bool
  | 0, _, _ => .fail
  | k + 1, b_3388, at_3393 =>
    lt ((if (w64 ((s3308.length : Int) - at_3393)) < size3309 then (w64 ((s3308.length : Int) - at_3393)) else size3309)) fun (n_3395 : Int) =>
    cond ((w64 (at_3393 + n_3395)) == (s3308.length : Int))
      (
      mortiselaw07_InflateStored.j2 K (mortiselaw07_InflateStored.l1 K s3308 size3309 k) s3308 b_3388 at_3393 n_3395 (1 : Int))
      (
      mortiselaw07_InflateStored.j2 K (mortiselaw07_InflateStored.l1 K s3308 size3309 k) s3308 b_3388 at_3393 n_3395 (0 : Int))

def mortiselaw07_InflateStored.m (K : Nat) (s3308 : List UInt8) (size3309 : Int) : Res Bool :=
  cond (((decide ((s3308.length : Int) > (3000 : Int))) || (decide (size3309 < (1 : Int)))) || (decide (size3309 > (65535 : Int))))
    (
    (mortiselaw07_live.m K).bind fun x3325 =>
    .ok x3325)
    (
    mortiselaw07_InflateStored.l1 K s3308 size3309 K ([] : List Int) (0 : Int))

def mortiselaw07_InflateReads.j1 (K : Nat)  (v3470 : Bool) : Res Bool :=
  .ok v3470

def mortiselaw07_InflateReads.m (K : Nat) (s3458 : List UInt8) (limit3459 : Int) : Res Bool :=
  cond ((decide ((s3458.length : Int) > (3000 : Int))) || (decide (limit3459 > (40000 : Int))))
    (
    (mortiselaw07_live.m K).bind fun x3461 =>
    .ok x3461)
    (
    (inflate_Inflate.m K s3458 limit3459).bind fun (x3462, x3463, x3464) =>
    (mortiseref07_Inflate.m K s3458 limit3459).bind fun (x3465, x3466, x3467) =>
    cond (((x3462 == x3465) && (x3463 == x3466)) && (x3464 == x3467))
      (
      (mortiselaw07_live.m K).bind fun x3469 =>
      mortiselaw07_InflateReads.j1 K x3469)
      (
      mortiselaw07_InflateReads.j1 K false))

def mortiselaw07_InflateBehind.j1 (K : Nat)  (v3487 : Bool) : Res Bool :=
  .ok v3487

def mortiselaw07_InflateBehind.j2 (K : Nat)  (v3491 : Bool) : Res Bool :=
  .ok v3491

def mortiselaw07_InflateBehind.m (K : Nat) (s3473 : List UInt8) (more3474 : List UInt8) : Res Bool :=
  cond ((decide ((s3473.length : Int) > (20000 : Int))) || (decide ((more3474.length : Int) > (20000 : Int))))
    (
    (mortiselaw07_live.m K).bind fun x3476 =>
    .ok x3476)
    (
    (inflate_Inflate.m K s3473 (100000 : Int)).bind fun (x3477, x3478, x3479) =>
    chk (fits (s3473.length + more3474.length)) <|
    (inflate_Inflate.m K (s3473 ++ more3474) (100000 : Int)).bind fun (x3481, x3482, x3483) =>
    cond (x3479 != (0 : Int))
      (
      cond ((x3479 == (2 : Int)) || (x3483 == x3479))
        (
        (mortiselaw07_live.m K).bind fun x3486 =>
        mortiselaw07_InflateBehind.j1 K x3486)
        (
        mortiselaw07_InflateBehind.j1 K false))
      (
      cond ((((x3483 == (0 : Int)) && (x3477 == x3481)) && (x3478 == x3482)) && (decide (x3478 ≤ (s3473.length : Int))))
        (
        (mortiselaw07_live.m K).bind fun x3490 =>
        mortiselaw07_InflateBehind.j2 K x3490)
        (
        mortiselaw07_InflateBehind.j2 K false)))

def mortiselaw07_InflateCut.j1 (K : Nat)  (v3504 : Bool) : Res Bool :=
  .ok v3504

def mortiselaw07_InflateCut.j3 (K : Nat)  (v3517 : Bool) : Res Bool :=
  .ok v3517

def mortiselaw07_InflateCut.j2 (K : Nat) (s3494 : List UInt8) (x3499 : Int) (at_3508 : Int) : Res Bool :=
  chk (x3499 != (0 : Int)) <|
  chk (subok (0 : Int) (irem at_3508 x3499) s3494.length) <|
  (inflate_Inflate.m K (sub s3494 (0 : Int) (irem at_3508 x3499)) (100000 : Int)).bind fun (x3512, x3513, x3514) =>
  cond (x3514 == (2 : Int))
    (
    (mortiselaw07_live.m K).bind fun x3516 =>
    mortiselaw07_InflateCut.j3 K x3516)
    (
    mortiselaw07_InflateCut.j3 K false)

def mortiselaw07_InflateCut.m (K : Nat) (s3494 : List UInt8) (at_3495 : Int) : Res Bool :=
  cond (decide ((s3494.length : Int) > (20000 : Int)))
    (
    (mortiselaw07_live.m K).bind fun x3497 =>
    .ok x3497)
    (
    (inflate_Inflate.m K s3494 (100000 : Int)).bind fun (x3498, x3499, x3500) =>
    cond (((x3500 != (0 : Int)) || (x3499 == (0 : Int))) || (decide (x3499 > (s3494.length : Int))))
      (
      cond (decide (x3499 ≤ (s3494.length : Int)))
        (
        (mortiselaw07_live.m K).bind fun x3503 =>
        mortiselaw07_InflateCut.j1 K x3503)
        (
        mortiselaw07_InflateCut.j1 K false))
      (
      cond (decide (at_3495 < (0 : Int)))
        (
        lt ((w64 (0 - (w64 (at_3495 + (1 : Int)))))) fun (at_3507 : Int) =>
        mortiselaw07_InflateCut.j2 K s3494 x3499 at_3507)
        (
        mortiselaw07_InflateCut.j2 K s3494 x3499 at_3495)))

def mortiselaw07_InflateLimits.j1 (K : Nat)  (v3529 : Bool) : Res Bool :=
  .ok v3529

def mortiselaw07_InflateLimits.j2 (K : Nat)  (v3542 : Bool) : Res Bool :=
  .ok v3542

def mortiselaw07_InflateLimits.m (K : Nat) (s3520 : List UInt8) : Res Bool :=
  cond (decide ((s3520.length : Int) > (20000 : Int)))
    (
    (mortiselaw07_live.m K).bind fun x3522 =>
    .ok x3522)
    (
    (inflate_Inflate.m K s3520 (100000 : Int)).bind fun (x3523, x3524, x3525) =>
    cond (x3525 != (0 : Int))
      (
      cond ((x3523 == ([] : List UInt8)) && (x3524 == (0 : Int)))
        (
        (mortiselaw07_live.m K).bind fun x3528 =>
        mortiselaw07_InflateLimits.j1 K x3528)
        (
        mortiselaw07_InflateLimits.j1 K false))
      (
      (inflate_Inflate.m K s3520 (x3523.length : Int)).bind fun (x3531, x3532, x3533) =>
      cond (((!(x3531 == x3523)) || (x3532 != x3524)) || (x3533 != (0 : Int)))
        (
        .ok false)
        (
        cond ((x3523.length : Int) == (0 : Int))
          (
          (mortiselaw07_live.m K).bind fun x3536 =>
          .ok x3536)
          (
          (inflate_Inflate.m K s3520 (w64 ((x3523.length : Int) - (1 : Int)))).bind fun (x3537, x3538, x3539) =>
          cond (x3539 == (11 : Int))
            (
            (mortiselaw07_live.m K).bind fun x3541 =>
            mortiselaw07_InflateLimits.j2 K x3541)
            (
            mortiselaw07_InflateLimits.j2 K false)))))

def mortiselaw07_InflateAhead.j1 (K : Nat)  (v3570 : Bool) : Res Bool :=
  .ok v3570

def mortiselaw07_InflateAhead.m (K : Nat) (s3545 : List UInt8) (ahead3546 : List UInt8) : Res Bool :=
  cond ((decide ((s3545.length : Int) > (20000 : Int))) || (decide ((ahead3546.length : Int) > (20000 : Int))))
    (
    (mortiselaw07_live.m K).bind fun x3548 =>
    .ok x3548)
    (
    (inflate_Inflate.m K s3545 (100000 : Int)).bind fun (x3549, x3550, x3551) =>
    cond (x3551 != (0 : Int))
      (
      (mortiselaw07_live.m K).bind fun x3553 =>
      .ok x3553)
      (
      lt ((ahead3546.length : Int)) fun (k_3554 : Int) =>
      chk (fits ((([(0 : Int), (wr .u8 k_3554), (wr .u8 (ishr .i64 k_3554 (8 : Int))), (wr .u8 (w64 ((255 : Int) - (iand .i64 k_3554 (255 : Int))))), (wr .u8 (w64 ((255 : Int) - (ishr .i64 k_3554 (8 : Int)))))] : List Int).map tob).length + ahead3546.length)) <|
      chk (fits (((([(0 : Int), (wr .u8 k_3554), (wr .u8 (ishr .i64 k_3554 (8 : Int))), (wr .u8 (w64 ((255 : Int) - (iand .i64 k_3554 (255 : Int))))), (wr .u8 (w64 ((255 : Int) - (ishr .i64 k_3554 (8 : Int)))))] : List Int).map tob) ++ ahead3546).length + s3545.length)) <|
      lt ((((([(0 : Int), (wr .u8 k_3554), (wr .u8 (ishr .i64 k_3554 (8 : Int))), (wr .u8 (w64 ((255 : Int) - (iand .i64 k_3554 (255 : Int))))), (wr .u8 (w64 ((255 : Int) - (ishr .i64 k_3554 (8 : Int)))))] : List Int).map tob) ++ ahead3546) ++ s3545)) fun (t3561 : List UInt8) =>
      (inflate_Inflate.m K t3561 (150000 : Int)).bind fun (x3562, x3563, x3564) =>
      chk (imp true (x3564 == (0 : Int)) (fits (ahead3546.length + x3549.length))) <|
      cond (((x3564 == (0 : Int)) && (x3562 == (ahead3546 ++ x3549))) && (x3563 == (w64 ((w64 ((5 : Int) + k_3554)) + x3550))))
        (
        (mortiselaw07_live.m K).bind fun x3569 =>
        mortiselaw07_InflateAhead.j1 K x3569)
        (
        mortiselaw07_InflateAhead.j1 K false)))
end Go.Mo
