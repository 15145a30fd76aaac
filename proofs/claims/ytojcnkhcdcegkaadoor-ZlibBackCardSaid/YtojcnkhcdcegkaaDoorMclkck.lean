/- Models of the Go functions that this statement reaches, printed by a program of mine: nothing is proved but lengths of tables. -/
import Derived.Test.YtojcnkhcdcegkaaDoorOwnaefaj
set_option linter.unusedVariables false
set_option linter.unusedSimpArgs false
namespace Go.Mo
open Go Go.Sl
structure yd where
  text_ : List UInt8
  base_ : Int
  deriving Inhabited
structure qr where
  at_ : Int
  deriving Inhabited
structure qG where
  place_ : qr
  text_ : List UInt8
  deriving Inhabited
structure qx where
  Reader_ : qG
  out_ : (List Int)
  limit_ : Int
  deriving Inhabited
structure qH where
  counts_ : (List Int)
  symbols_ : (List Int)
  deriving Inhabited
structure xA where
  from_ : Int
  bits_ : Int
  deriving Inhabited
structure qM where
  Lit_ : Int
  Len_ : Int
  Dist_ : Int
  deriving Inhabited
structure xn where
  text_ : List UInt8
  seen_ : (List ((List Int) × (List Int)))
  deriving Inhabited
structure qR where
  place_ : qr
  bytes_ : (List Int)
  deriving Inhabited
structure qv where
  lengths_ : (List Int)
  codes_ : (List Int)
  deriving Inhabited
structure qp where
  Writer_ : qR
  literals_ : qv
  distances_ : qv
  deriving Inhabited
structure xV where
  symbol_ : Int
  bits_ : Int
  more_ : Int
  deriving Inhabited
structure qb where
  often_ : Int
  symbols_ : (List Int)
  deriving Inhabited
structure qi where
  symbol_ : Int
  more_ : Int
  bits_ : Int
  deriving Inhabited
abbrev QN : TypeId := 9
abbrev xC : TypeId := 92
def tab_deflate_order : List Int := [16, 17, 18, 0, 8, 7, 9, 6, 10, 5, 11, 4, 12, 3, 13, 2, 14, 1, 15]
theorem Qe : tab_deflate_order.length = 19 := by decide
def tab_inflate_lengths : List xA := [⟨3, 0⟩, ⟨4, 0⟩, ⟨5, 0⟩, ⟨6, 0⟩, ⟨7, 0⟩, ⟨8, 0⟩, ⟨9, 0⟩, ⟨10, 0⟩, ⟨11, 1⟩, ⟨13, 1⟩, ⟨15, 1⟩, ⟨17, 1⟩, ⟨19, 2⟩, ⟨23, 2⟩, ⟨27, 2⟩, ⟨31, 2⟩, ⟨35, 3⟩, ⟨43, 3⟩, ⟨51, 3⟩, ⟨59, 3⟩, ⟨67, 4⟩, ⟨83, 4⟩, ⟨99, 4⟩, ⟨115, 4⟩, ⟨131, 5⟩, ⟨163, 5⟩, ⟨195, 5⟩, ⟨227, 5⟩, ⟨258, 0⟩]
def tab_inflate_distances : List xA := [⟨1, 0⟩, ⟨2, 0⟩, ⟨3, 0⟩, ⟨4, 0⟩, ⟨5, 1⟩, ⟨7, 1⟩, ⟨9, 2⟩, ⟨13, 2⟩, ⟨17, 3⟩, ⟨25, 3⟩, ⟨33, 4⟩, ⟨49, 4⟩, ⟨65, 5⟩, ⟨97, 5⟩, ⟨129, 6⟩, ⟨193, 6⟩, ⟨257, 7⟩, ⟨385, 7⟩, ⟨513, 8⟩, ⟨769, 8⟩, ⟨1025, 9⟩, ⟨1537, 9⟩, ⟨2049, 10⟩, ⟨3073, 10⟩, ⟨4097, 11⟩, ⟨6145, 11⟩, ⟨8193, 12⟩, ⟨12289, 12⟩, ⟨16385, 13⟩, ⟨24577, 13⟩]
def tab_inflate_order : List Int := [16, 17, 18, 0, 8, 7, 9, 6, 10, 5, 11, 4, 12, 3, 13, 2, 14, 1, 15]
theorem Qf : tab_inflate_order.length = 19 := by decide
def YA.m (K : Nat) (s6 : List UInt8) : qN Unit :=
  .ok ()
def vo.m (K : Nat) (MR : Int) : qN Bool :=
  lt ((((decide (MR > (0 : Int))) && (decide (MR ≤ (8 : Int)))) && ((xE .i64 MR (qh (MR - (1 : Int)))) == (0 : Int)))) fun (MS : Bool) =>
  .ok MS
def jl.m (K : Nat) (MS : yd) (MR : Int) (MT : Int) : qN ((List UInt8) × Int × Int) :=
  cond ((decide (MR < (0 : Int))) || (decide (MT < (0 : Int))))
    (
    .ok (([] : List UInt8), (0 : Int), (1 : Int)))
    (
    cond ((decide (MR > (MS.text_.length : Int))) || (decide (MT > (qh ((MS.text_.length : Int) - MR)))))
      (
      .ok (([] : List UInt8), (0 : Int), (2 : Int)))
      (
      chk (subok MR (qh (MR + MT)) MS.text_.length) <|
      .ok ((sub MS.text_ MR (qh (MR + MT))), (qh (MS.base_ + MR)), (0 : Int))))
def yX.m (K : Nat) (MR : Int) : qN Unit :=
  .ok ()
def yc.m (K : Nat) (MR : Int) (MS : Int) : qN Int :=
  lt ((qh ((qh (MS - (1 : Int))) - MR))) fun (MT : Int) =>
  .ok MT
def zR.l1 (K : Nat) (MR : Int) (MS : List UInt8) : Nat → Int → Int → qN (Int × Int)
  | 0, _, _ => .fail
  | k + 1, MT, MU =>
    cond (decide (MU < MR))
      (
      (yc.m K MU MR).bind fun MW =>
      chk (inb MW MS.length) <|
      chk (decide (0 ≤ (qh ((8 : Int) * MU)))) <|
      lt ((QP .u64 MT (z7 .u64 (wr .u64 ((rd MS MW).toNat : Int)) (qh ((8 : Int) * MU))))) fun (MV : Int) =>
      zR.l1 K MR MS k MV (qh (MU + (1 : Int))))
      (
      .ok (MT, (0 : Int)))
def zR.m (K : Nat) (MV : yd) (MT : Int) (MR : Int) : qN (Int × Int) :=
  (vo.m K MR).bind fun MX =>
  cond (!MX)
    (
    .ok ((0 : Int), (1 : Int)))
    (
    (jl.m K MV MT MR).bind fun (MS, MU, MW) =>
    cond (MW != (0 : Int))
      (
      .ok ((0 : Int), MW))
      (
      (yX.m K MR).bind fun _ =>
      zR.l1 K MR MS K (0 : Int) (0 : Int)))
def Zb.m (K : Nat) (MR : List UInt8) : qN Unit :=
  .ok ()
def zH.j2 (K : Nat) (MS : qG) (MR : Int) (MT : Int) : qN (Int × Int × Int) :=
  chk (decide (0 ≤ (xE .i64 MS.place_.at_ (7 : Int)))) <|
  lt ((xa .u64 MT (xE .i64 MS.place_.at_ (7 : Int)))) fun (MU : Int) =>
  chk (decide (0 ≤ MR)) <|
  lt ((wr .u32 (xE .u64 MU (wr .u64 ((z7 .u64 (1 : Int) MR) - (1 : Int)))))) fun (MV : Int) =>
  .ok (MV, (0 : Int), (qh (MS.place_.at_ + MR)))
def zH.l1 (K : Nat) (MU : qG) (MT : Int) (MR : Int) : Nat → Int → Int → qN (Int × Int × Int)
  | 0, _, _ => .fail
  | k + 1, MV, MS =>
    cond (decide ((qh ((8 : Int) * (qh (MR + MS)))) < (qh (MU.place_.at_ + MT))))
      (
      chk (inb (qh (MR + MS)) MU.text_.length) <|
      chk (decide (0 ≤ (qh ((8 : Int) * MS)))) <|
      lt ((QP .u64 MV (z7 .u64 (wr .u64 ((rd MU.text_ (qh (MR + MS))).toNat : Int)) (qh ((8 : Int) * MS))))) fun (MX : Int) =>
      lt ((qh (MS + (1 : Int)))) fun (MW : Int) =>
      zH.l1 K MU MT MR k MX MW)
      (
      zH.j2 K MU MT MV)
def zH.m (K : Nat) (MS : qG) (MR : Int) : qN (Int × Int × Int) :=
  lt (((decide (MR < (0 : Int))) || (decide (MR > (32 : Int))))) fun (MU : Bool) =>
  cond MU
    (
    .ok ((0 : Int), (1 : Int), MS.place_.at_))
    (
    lt ((decide (MR > (qh ((qh ((8 : Int) * (MS.text_.length : Int))) - MS.place_.at_))))) fun (MV : Bool) =>
    cond MV
      (
      .ok ((0 : Int), (2 : Int), MS.place_.at_))
      (
      lt ((yR .i64 MS.place_.at_ (8 : Int))) fun (MT : Int) =>
      zH.l1 K MS MR MT K (0 : Int) (0 : Int)))
def yu.m (K : Nat) (MR : Int) : qN Unit :=
  cond (MR != (0 : Int))
    (
    .pan (.iface xC (.agg ⟨[.int .i64 MR]⟩)))
    (
    .ok ())
def zM.m (K : Nat) (MT : qx) (MS : Int) : qN (Int × Int) :=
  (zH.m K MT.Reader_ MS).bind fun (MV, MW, MR) =>
  (yu.m K MW).bind fun _ =>
  lt ((wr .i64 MV)) fun (MU : Int) =>
  .ok (MU, MR)
def xW.m (K : Nat) (MR : qG) : qN Int :=
  .ok (YX .i64 (qh (MR.place_.at_ + (7 : Int))) (7 : Int))
def yn.m (K : Nat) (MU : qG) (MT : Int) : qN ((List UInt8) × Int × Int) :=
  cond (decide (MT < (0 : Int)))
    (
    .ok (([] : List UInt8), (1 : Int), MU.place_.at_))
    (
    (xW.m K MU).bind fun MR =>
    chk (subok (yR .i64 MR (8 : Int)) (MU.text_.length : Int) MU.text_.length) <|
    lt ((sub MU.text_ (yR .i64 MR (8 : Int)) (MU.text_.length : Int))) fun (MS : List UInt8) =>
    cond (decide (MT > (MS.length : Int)))
      (
      .ok (([] : List UInt8), (2 : Int), MR))
      (
      chk (subok (0 : Int) MT MS.length) <|
      lt ((sub MS (0 : Int) MT)) fun (MV : List UInt8) =>
      .ok (MV, (0 : Int), (qh (MR + (qh ((8 : Int) * MT)))))))
def zK.m (K : Nat) (MR : Bool) (MS : Int) : qN Unit :=
  cond MR
    (
    .pan (.iface xC (.agg ⟨[.int .i64 MS]⟩)))
    (
    .ok ())
def x8.m (K : Nat) (MS : qx) : qN (Int × (List Int)) :=
  (yn.m K MS.Reader_ (4 : Int)).bind fun (MR, MY, MU) =>
  (yu.m K MY).bind fun _ =>
  chk (inb (0 : Int) MR.length) <|
  chk (inb (1 : Int) MR.length) <|
  lt ((QP .i64 (wr .i64 ((rd MR (0 : Int)).toNat : Int)) (z7 .i64 (wr .i64 ((rd MR (1 : Int)).toNat : Int)) (8 : Int)))) fun (MT : Int) =>
  chk (inb (2 : Int) MR.length) <|
  chk (inb (3 : Int) MR.length) <|
  (zK.m K ((QP .i64 (wr .i64 ((rd MR (2 : Int)).toNat : Int)) (z7 .i64 (wr .i64 ((rd MR (3 : Int)).toNat : Int)) (8 : Int))) != (ZR .i64 MT (65535 : Int))) (3 : Int)).bind fun _ =>
  (yn.m K (qG.mk (qr.mk MU) MS.Reader_.text_) MT).bind fun (MW, MZ, MV) =>
  (yu.m K MZ).bind fun _ =>
  (zK.m K (decide ((qh ((MS.out_.length : Int) + MT)) > MS.limit_)) (11 : Int)).bind fun _ =>
  chk (room (MS.out_.length + MW.length) 1) <|
  lt (MS.out_ ++ MW.map uY) fun (MX : (List Int)) =>
  .ok (MV, MX)
def xg.j2 (K : Nat)  (MR : (List Int)) : qN ((List Int) × Bool) :=
  lt (MR.set (Int.toNat (0 : Int)) (0 : Int)) fun (MS : (List Int)) =>
  .ok (MS, true)
def xg.l1 (K : Nat) (MR : List Int) : Nat → (List Int) → Int → qN ((List Int) × Bool)
  | 0, _, _ => .fail
  | k + 1, MT, MU =>
    cond (decide (MU < (MR.length : Int)))
      (
      chk (inb MU MR.length) <|
      lt ((rd MR MU)) fun (MS : Int) =>
      cond ((decide (MS < (0 : Int))) || (decide (MS > (15 : Int))))
        (
        .ok (MT, false))
        (
        chk (inb MS 16) <|
        lt (MT.set (Int.toNat MS) (qh ((rd MT MS) + (1 : Int)))) fun (MV : (List Int)) =>
        xg.l1 K MR k MV (qh (MU + (1 : Int)))))
      (
      xg.j2 K MT)
def xg.m (K : Nat) (MR : List Int) : qN ((List Int) × Bool) :=
  cond (decide ((MR.length : Int) > (320 : Int)))
    (
    .ok ((List.replicate 16 (0 : Int)), false))
    (
    xg.l1 K MR K (List.replicate 16 (0 : Int)) (0 : Int))
def xr.j2 (K : Nat) (MS : (List Int)) (MR : Int) : qN Int :=
  cond (((MR == (0 : Int)) || (MR == (32768 : Int))) || (MS == ([0, (1 : Int), 0, 0, 0, 0, 0, 0, 0, 0, 0, 0, 0, 0, 0, 0] : List Int)))
    (
    .ok (0 : Int))
    (
    .ok (3 : Int))
def xr.l1 (K : Nat) (MU : (List Int)) : Nat → Int → Int → qN Int
  | 0, _, _ => .fail
  | k + 1, MS, MR =>
    cond (decide (MR < (16 : Int)))
      (
      chk (inb MR 16) <|
      lt ((rd MU MR)) fun (MV : Int) =>
      chk (decide (0 ≤ MR)) <|
      lt ((qh (MS + (qh (MV * (xa .i64 (32768 : Int) MR)))))) fun (MT : Int) =>
      xr.l1 K MU k MT (qh (MR + (1 : Int))))
      (
      xr.j2 K MU MS)
def xr.m (K : Nat) (MR : List Int) : qN Int :=
  (xg.m K MR).bind fun (MS, MT) =>
  cond (!MT)
    (
    .ok (1 : Int))
    (
    xr.l1 K MS K (0 : Int) (0 : Int))
def xN.l2 (K : Nat) (g1 : (List Int) → Int → qN ((Option qH) × Int)) (MR : List Int) (MU : Int) : Nat → (List Int) → Int → qN ((Option qH) × Int)
  | 0, _, _ => .fail
  | k + 1, MS, MT =>
    cond (decide (MT < (MR.length : Int)))
      (
      chk (inb MT MR.length) <|
      lt ((rd MR MT)) fun (MV : Int) =>
      cond (MV == MU)
        (
        chk (room (MS.length + ([MT] : List Int).length) 8) <|
        lt (MS ++ ([MT] : List Int)) fun (MX : (List Int)) =>
        xN.l2 K g1 MR MU k MX (qh (MT + (1 : Int))))
        (
        xN.l2 K g1 MR MU k MS (qh (MT + (1 : Int)))))
      (
      lt ((qh (MU + (1 : Int)))) fun (MW : Int) =>
      g1 MS MW)
def xN.l1 (K : Nat) (MR : List Int) (MU : (List Int)) : Nat → (List Int) → Int → qN ((Option qH) × Int)
  | 0, _, _ => .fail
  | k + 1, MS, MT =>
    cond (decide (MT ≤ (15 : Int)))
      (
      xN.l2 K (xN.l1 K MR MU k) MR MT K MS (0 : Int))
      (
      .ok ((some (qH.mk MU MS)), (0 : Int)))
def xN.m (K : Nat) (MR : List Int) : qN ((Option qH) × Int) :=
  (xr.m K MR).bind fun MS =>
  cond (MS != (0 : Int))
    (
    .ok (none, MS))
    (
    (xg.m K MR).bind fun (MT, MU) =>
    xN.l1 K MR MT K ([] : List Int) (1 : Int))
def yh.m (K : Nat) (MR : List Int) : qN (Option qH) :=
  (xN.m K MR).bind fun (MS, MT) =>
  (zK.m K (MT != (0 : Int)) (3 : Int)).bind fun _ =>
  .ok MS
def zr.j2 (K : Nat) (g1 : (List Int) → Int → qN ((Option qH) × (Option qH))) (MR : Int) (MS : (List Int)) : qN ((Option qH) × (Option qH)) :=
  cond ((decide (MR ≥ (256 : Int))) && (decide (MR < (280 : Int))))
    (
    lt (MS.set (Int.toNat MR) (7 : Int)) fun (MT : (List Int)) =>
    g1 MT (qh (MR + (1 : Int))))
    (
    g1 MS (qh (MR + (1 : Int))))
def zr.j5 (K : Nat) (MR : (List Int)) (MS : (List Int)) : qN ((Option qH) × (Option qH)) :=
  (yh.m K MR).bind fun MT =>
  (yh.m K MS).bind fun MU =>
  .ok (MT, MU)
def zr.l4 (K : Nat) (MS : (List Int)) : Nat → (List Int) → Int → qN ((Option qH) × (Option qH))
  | 0, _, _ => .fail
  | k + 1, MT, MR =>
    cond (decide (MR < (32 : Int)))
      (
      chk (inb MR 32) <|
      lt (MT.set (Int.toNat MR) (5 : Int)) fun (MU : (List Int)) =>
      zr.l4 K MS k MU (qh (MR + (1 : Int))))
      (
      zr.j5 K MS MT)
def zr.j3 (K : Nat)  (MR : (List Int)) : qN ((Option qH) × (Option qH)) :=
  zr.l4 K MR K (List.replicate 32 (0 : Int)) (0 : Int)
def zr.l1 (K : Nat)  : Nat → (List Int) → Int → qN ((Option qH) × (Option qH))
  | 0, _, _ => .fail
  | k + 1, MS, MR =>
    cond (decide (MR < (288 : Int)))
      (
      chk (inb MR 288) <|
      lt (MS.set (Int.toNat MR) (8 : Int)) fun (MT : (List Int)) =>
      cond ((decide (MR ≥ (144 : Int))) && (decide (MR < (256 : Int))))
        (
        lt (MT.set (Int.toNat MR) (9 : Int)) fun (MU : (List Int)) =>
        zr.j2 K (zr.l1 K k) MR MU)
        (
        zr.j2 K (zr.l1 K k) MR MT))
      (
      zr.j3 K MS)
def zr.m (K : Nat) : qN ((Option qH) × (Option qH)) :=
  zr.l1 K K (List.replicate 288 (0 : Int)) (0 : Int)
def z8.j2 (K : Nat) (MS : qG) (MR : Int) : qN (Int × Int × Int) :=
  .ok ((0 : Int), (3 : Int), MS.place_.at_)
def z8.l1 (K : Nat) (M3 : qH) (M5 : qG) : Nat → Int → Int → Int → Int → Int → qN (Int × Int × Int)
  | 0, _, _, _, _, _ => .fail
  | k + 1, MV, M4, MX, MR, M0 =>
    cond (decide (MR < (M3.symbols_.length : Int)))
      (
      (zH.m K (qG.mk (qr.mk MV) M5.text_) (1 : Int)).bind fun (M9, M7, MW) =>
      cond (M7 != (0 : Int))
        (
        .ok ((0 : Int), M7, M5.place_.at_))
        (
        lt ((QP .i64 (z7 .i64 M4 (1 : Int)) (wr .i64 M9))) fun (MT : Int) =>
        lt ((z7 .i64 MX (1 : Int))) fun (MS : Int) =>
        chk (inb M0 16) <|
        lt ((rd M3.counts_ M0)) fun (MZ : Int) =>
        cond (decide ((qh (MT - MS)) < MZ))
          (
          chk (inb (qh ((qh (MR + MT)) - MS)) M3.symbols_.length) <|
          lt ((rd M3.symbols_ (qh ((qh (MR + MT)) - MS)))) fun (M8 : Int) =>
          .ok (M8, (0 : Int), MW))
          (
          lt ((qh (MS + MZ))) fun (MY : Int) =>
          lt ((qh (MR + MZ))) fun (MU : Int) =>
          lt ((qh (M0 + (1 : Int)))) fun (M6 : Int) =>
          z8.l1 K M3 M5 k MW MT MY MU M6)))
      (
      z8.j2 K M5 MV)
def z8.m (K : Nat) (MS : qH) (MR : qG) : qN (Int × Int × Int) :=
  z8.l1 K MS MR K MR.place_.at_ (0 : Int) (0 : Int) (0 : Int) (1 : Int)
def xL.m (K : Nat) (MS : qx) (MT : qH) : qN (Int × Int) :=
  (z8.m K MT MS.Reader_).bind fun (MU, MV, MR) =>
  (yu.m K MV).bind fun _ =>
  .ok (MU, MR)
def ya.m (K : Nat) (MT : qx) (MS : xA) : qN (Int × Int) :=
  (zM.m K MT MS.bits_).bind fun (MV, MR) =>
  lt ((qh (MS.from_ + MV))) fun (MU : Int) =>
  .ok (MU, MR)
def qU.l2 (K : Nat) (g1 : Int → (List Int) → qN (Int × (List Int))) (MV : Int) (MT : Int) (MS : Int) : Nat → (List Int) → Int → qN (Int × (List Int))
  | 0, _, _ => .fail
  | k + 1, MR, MU =>
    cond (decide (MU < MV))
      (
      chk (inb (qh ((MR.length : Int) - MT)) MR.length) <|
      chk (room (MR.length + ([(rd MR (qh ((MR.length : Int) - MT)))] : List Int).length) 1) <|
      lt (MR ++ ([(rd MR (qh ((MR.length : Int) - MT)))] : List Int)) fun (MW : (List Int)) =>
      qU.l2 K g1 MV MT MS k MW (qh (MU + (1 : Int))))
      (
      g1 MS MR)
def qU.l1 (K : Nat) (MT : qx) (MS : qH) (MU : qH) : Nat → Int → (List Int) → qN (Int × (List Int))
  | 0, _, _ => .fail
  | k + 1, M5, MR =>
    (xL.m K (qx.mk (qG.mk (qr.mk M5) MT.Reader_.text_) MR MT.limit_) MS).bind fun (MV, MW) =>
    lt ((MV == (256 : Int))) fun (M7 : Bool) =>
    cond M7
      (
      .ok (MW, MR))
      (
      lt ((decide (MV < (256 : Int)))) fun (M8 : Bool) =>
      cond M8
        (
        (zK.m K ((MR.length : Int) == MT.limit_) (11 : Int)).bind fun _ =>
        chk (room (MR.length + ([(wr .u8 MV)] : List Int).length) 1) <|
        lt (MR ++ ([(wr .u8 MV)] : List Int)) fun (M6 : (List Int)) =>
        qU.l1 K MT MS MU k MW M6)
        (
        (zK.m K (decide (MV ≥ (286 : Int))) (3 : Int)).bind fun _ =>
        chk (inb (qh (MV - (257 : Int))) 29) <|
        (ya.m K (qx.mk (qG.mk (qr.mk MW) MT.Reader_.text_) MR MT.limit_) (xA.mk ((rd tab_inflate_lengths (qh (MV - (257 : Int)))).from_) ((rd tab_inflate_lengths (qh (MV - (257 : Int)))).bits_))).bind fun (M3, MY) =>
        (xL.m K (qx.mk (qG.mk (qr.mk MY) MT.Reader_.text_) MR MT.limit_) MU).bind fun (MX, MZ) =>
        (zK.m K (decide (MX ≥ (30 : Int))) (3 : Int)).bind fun _ =>
        chk (inb MX 30) <|
        (ya.m K (qx.mk (qG.mk (qr.mk MZ) MT.Reader_.text_) MR MT.limit_) (xA.mk ((rd tab_inflate_distances MX).from_) ((rd tab_inflate_distances MX).bits_))).bind fun (M4, M0) =>
        (zK.m K (decide (M4 > (MR.length : Int))) (3 : Int)).bind fun _ =>
        (zK.m K (decide ((qh ((MR.length : Int) + M3)) > MT.limit_)) (11 : Int)).bind fun _ =>
        qU.l2 K (qU.l1 K MT MS MU k) M3 M4 M0 K MR (0 : Int)))
def qU.m (K : Nat) (MT : qx) (MR : qH) (MS : qH) : qN (Int × (List Int)) :=
  qU.l1 K MT MR MS K MT.Reader_.place_.at_ MT.out_
def qO.l3 (K : Nat) (g1 : Int → (List Int) → qN ((List Int) × Int)) (MU : Int) (MR : Int) (MS : Int) : Nat → (List Int) → Int → qN ((List Int) × Int)
  | 0, _, _ => .fail
  | k + 1, MT, MV =>
    cond (decide (MV < MS))
      (
      chk (room (MT.length + ([MR] : List Int).length) 8) <|
      lt (MT ++ ([MR] : List Int)) fun (MW : (List Int)) =>
      qO.l3 K g1 MU MR MS k MW (qh (MV + (1 : Int))))
      (
      g1 MU MT)
def qO.j2 (K : Nat) (g1 : Int → (List Int) → qN ((List Int) × Int)) (MV : Int) (MT : (List Int)) (MU : Int) (MS : Int) (MR : Int) : qN ((List Int) × Int) :=
  (zK.m K (decide (MR > (qh (MV - (MT.length : Int))))) (3 : Int)).bind fun _ =>
  qO.l3 K (g1) MU MS MR K MT (0 : Int)
def qO.l1 (K : Nat) (MR : qx) (MT : Int) (MV : qH) : Nat → Int → (List Int) → qN ((List Int) × Int)
  | 0, _, _ => .fail
  | k + 1, MW, MS =>
    cond (decide ((MS.length : Int) < MT))
      (
      (xL.m K (qx.mk (qG.mk (qr.mk MW) MR.Reader_.text_) MR.out_ MR.limit_) MV).bind fun (MX, MU) =>
      lt ((decide (MX < (16 : Int)))) fun (M7 : Bool) =>
      cond M7
        (
        qO.j2 K (qO.l1 K MR MT MV k) MT MS MU MX (1 : Int))
        (
        lt ((MX == (16 : Int))) fun (M8 : Bool) =>
        cond M8
          (
          (zK.m K ((MS.length : Int) == (0 : Int)) (3 : Int)).bind fun _ =>
          chk (inb (qh ((MS.length : Int) - (1 : Int))) MS.length) <|
          (zM.m K (qx.mk (qG.mk (qr.mk MU) MR.Reader_.text_) MR.out_ MR.limit_) (2 : Int)).bind fun (Na, M4) =>
          lt ((rd MS (qh ((MS.length : Int) - (1 : Int))))) fun (M3 : Int) =>
          lt ((qh ((3 : Int) + Na))) fun (MY : Int) =>
          qO.j2 K (qO.l1 K MR MT MV k) MT MS M4 M3 MY)
          (
          lt ((MX == (17 : Int))) fun (M9 : Bool) =>
          cond M9
            (
            (zM.m K (qx.mk (qG.mk (qr.mk MU) MR.Reader_.text_) MR.out_ MR.limit_) (3 : Int)).bind fun (Nb, M5) =>
            lt ((qh ((3 : Int) + Nb))) fun (MZ : Int) =>
            qO.j2 K (qO.l1 K MR MT MV k) MT MS M5 (0 : Int) MZ)
            (
            (zM.m K (qx.mk (qG.mk (qr.mk MU) MR.Reader_.text_) MR.out_ MR.limit_) (7 : Int)).bind fun (Nc, M6) =>
            lt ((qh ((11 : Int) + Nc))) fun (M0 : Int) =>
            qO.j2 K (qO.l1 K MR MT MV k) MT MS M6 (0 : Int) M0))))
      (
      .ok (MS, MW))
def qO.m (K : Nat) (MR : qx) (MS : Int) (MT : qH) : qN ((List Int) × Int) :=
  qO.l1 K MR MS MT K MR.Reader_.place_.at_ ([] : List Int)
def zb.j2 (K : Nat) (MU : qx) (MS : Int) (MZ : Int) (MV : Int) (MT : (List Int)) : qN ((Option qH) × (Option qH) × Int) :=
  (zK.m K (MT == ([0, 0, 0, 0, 0, 0, 0, 0, 0, 0, 0, 0, 0, 0, 0, 0, 0, 0, 0] : List Int)) (3 : Int)).bind fun _ =>
  (yh.m K MT).bind fun M0 =>
  GH M0 fun M3 =>
  (qO.m K (qx.mk (qG.mk (qr.mk MV) MU.Reader_.text_) MU.out_ MU.limit_) (qh (MS + MZ)) M3).bind fun (MR, MW) =>
  chk (inb (256 : Int) MR.length) <|
  (zK.m K ((rd MR (256 : Int)) == (0 : Int)) (3 : Int)).bind fun _ =>
  chk (subok (0 : Int) MS MR.length) <|
  lt (sub MR (0 : Int) MS) fun (MX : (List Int)) =>
  chk (subok MS (MR.length : Int) MR.length) <|
  lt (sub MR MS (MR.length : Int)) fun (MY : (List Int)) =>
  (yh.m K MX).bind fun M4 =>
  (yh.m K MY).bind fun M5 =>
  .ok (M4, M5, MW)
def zb.l1 (K : Nat) (MS : qx) (MW : Int) (MX : Int) (MR : Int) : Nat → Int → (List Int) → Int → qN ((Option qH) × (Option qH) × Int)
  | 0, _, _, _ => .fail
  | k + 1, MU, MV, MT =>
    cond (decide (MT < (19 : Int)))
      (
      chk (inb MT 19) <|
      lt ((rd tab_inflate_order MT)) fun (MZ : Int) =>
      cond (decide (MT < MR))
        (
        (zM.m K (qx.mk (qG.mk (qr.mk MU) MS.Reader_.text_) MS.out_ MS.limit_) (3 : Int)).bind fun (M3, MY) =>
        chk (inb MZ 19) <|
        lt (MV.set (Int.toNat MZ) M3) fun (M0 : (List Int)) =>
        zb.l1 K MS MW MX MR k MY M0 (qh (MT + (1 : Int))))
        (
        zb.l1 K MS MW MX MR k MU MV (qh (MT + (1 : Int)))))
      (
      zb.j2 K MS MW MX MU MV)
def zb.m (K : Nat) (MR : qx) : qN ((Option qH) × (Option qH) × Int) :=
  (zM.m K MR (5 : Int)).bind fun (MY, MU) =>
  (zM.m K (qx.mk (qG.mk (qr.mk MU) MR.Reader_.text_) MR.out_ MR.limit_) (5 : Int)).bind fun (MZ, MV) =>
  lt ((qh (MY + (257 : Int)))) fun (MT : Int) =>
  lt ((qh (MZ + (1 : Int)))) fun (MX : Int) =>
  (zM.m K (qx.mk (qG.mk (qr.mk MV) MR.Reader_.text_) MR.out_ MR.limit_) (4 : Int)).bind fun (M0, MW) =>
  lt ((qh (M0 + (4 : Int)))) fun (MS : Int) =>
  (zK.m K ((decide (MT > (286 : Int))) || (decide (MX > (30 : Int)))) (3 : Int)).bind fun _ =>
  zb.l1 K MR MT MX MS K MW (List.replicate 19 (0 : Int)) (0 : Int)
def yj.m (K : Nat) (MR : qx) : qN (Bool × Int × (List Int)) :=
  (zM.m K MR (1 : Int)).bind fun (Nc, MZ) =>
  lt ((Nc == (1 : Int))) fun (MS : Bool) =>
  (zM.m K (qx.mk (qG.mk (qr.mk MZ) MR.Reader_.text_) MR.out_ MR.limit_) (2 : Int)).bind fun (M4, MT) =>
  lt ((M4 == (0 : Int))) fun (Na : Bool) =>
  cond Na
    (
    (x8.m K (qx.mk (qG.mk (qr.mk MT) MR.Reader_.text_) MR.out_ MR.limit_)).bind fun (M0, M3) =>
    .ok (MS, M0, M3))
    (
    lt ((M4 == (1 : Int))) fun (Nb : Bool) =>
    cond Nb
      (
      (zr.m K).bind fun (Nd, Nf) =>
      GH Nd fun Ng =>
      GH Nf fun Nh =>
      (qU.m K (qx.mk (qG.mk (qr.mk MT) MR.Reader_.text_) MR.out_ MR.limit_) Ng Nh).bind fun (MU, MX) =>
      .ok (MS, MU, MX))
      (
      lt ((M4 == (2 : Int))) fun (M5 : Bool) =>
      cond M5
        (
        (zb.m K (qx.mk (qG.mk (qr.mk MT) MR.Reader_.text_) MR.out_ MR.limit_)).bind fun (M6, M7, MV) =>
        GH M6 fun M8 =>
        GH M7 fun M9 =>
        (qU.m K (qx.mk (qG.mk (qr.mk MV) MR.Reader_.text_) MR.out_ MR.limit_) M8 M9).bind fun (MW, MY) =>
        .ok (MS, MW, MY))
        (
        (zK.m K true (3 : Int)).bind fun _ =>
        .ok (MS, MT, MR.out_))))
def vG.m (K : Nat) (MR : qG) : qN Unit :=
  .ok ()
def zA.h1 (K : Nat)  (MS : Value) : qN ((List UInt8) × Int × Int) :=
  GH (L6 xC .i64 MS) fun MR =>
  .ok (([] : List UInt8), (0 : Int), MR)
def zA.j4 (K : Nat) (MT : List UInt8) (MR : Int) (MS : (List Int)) : qN ((List UInt8) × Int × Int) :=
  (vG.m K (qG.mk (qr.mk MR) MT)).bind fun _ =>
  .ok ((MS.map ur), (yR .i64 (qh (MR + (7 : Int))) (8 : Int)), (0 : Int))
def zA.l3 (K : Nat) (MX : List UInt8) (MS : Int) : Nat → Int → (List Int) → qN ((List UInt8) × Int × Int)
  | 0, _, _ => .fail
  | k + 1, MU, MV =>
    (yj.m K (qx.mk (qG.mk (qr.mk MU) MX) MV MS)).bind fun (MW, MR, MT) =>
    cond (!MW)
      (
      zA.l3 K MX MS k MR MT)
      (
      zA.j4 K MX MR MT)
def zA.j2 (K : Nat) (MS : List UInt8) (MR : Int) : qN ((List UInt8) × Int × Int) :=
  (Zb.m K MS).bind fun _ =>
  zA.l3 K MS MR K (0 : Int) ([] : List Int)
def zA.m (K : Nat) (MS : List UInt8) (MR : Int) : qN ((List UInt8) × Int × Int) :=
  cond ((decide (MR < (0 : Int))) || (decide (MR > (1073741824 : Int))))
    (
    .ok (([] : List UInt8), (0 : Int), (1 : Int)))
    (
    (zA.j2 K MS MR).catch (zA.h1 K))
def q7.j3 (K : Nat) (g1 : (List UInt8) → Int → Int → qN Int) (MR : List UInt8) (MS : Int) (MU : Int) (MW : Int) : qN Int :=
  chk (subok MS (MR.length : Int) MR.length) <|
  lt ((vS MU (65521 : Int))) fun (MV : Int) =>
  lt ((vS MW (65521 : Int))) fun (MX : Int) =>
  lt ((sub MR MS (MR.length : Int))) fun (MT : List UInt8) =>
  g1 MT MV MX
def q7.l2 (K : Nat) (g1 : (List UInt8) → Int → Int → qN Int) (MS : List UInt8) (MR : Int) : Nat → Int → Int → Int → qN Int
  | 0, _, _, _ => .fail
  | k + 1, MU, MW, MT =>
    cond (decide (MT < MR))
      (
      chk (inb MT MS.length) <|
      lt ((wr .u32 (MU + (wr .u32 ((rd MS MT).toNat : Int))))) fun (MV : Int) =>
      lt ((wr .u32 (MW + MV))) fun (MX : Int) =>
      q7.l2 K g1 MS MR k MV MX (qh (MT + (1 : Int))))
      (
      q7.j3 K (g1) MS MR MU MW)
def q7.j4 (K : Nat)  (MS : Int) (MT : Int) : qN Int :=
  lt ((QP .u32 (z7 .u32 MT (16 : Int)) MS)) fun (MR : Int) =>
  .ok MR
def q7.l1 (K : Nat)  : Nat → (List UInt8) → Int → Int → qN Int
  | 0, _, _, _ => .fail
  | k + 1, MR, MS, MT =>
    cond (decide ((MR.length : Int) > (0 : Int)))
      (
      lt ((if (MR.length : Int) < (5000 : Int) then (MR.length : Int) else (5000 : Int))) fun (MU : Int) =>
      q7.l2 K (q7.l1 K k) MR MU K MS MT (0 : Int))
      (
      q7.j4 K MS MT)
def q7.m (K : Nat) (MR : Int) (MS : List UInt8) : qN Int :=
  lt ((vS (xE .u32 MR (65535 : Int)) (65521 : Int))) fun (MT : Int) =>
  lt ((vS (xa .u32 MR (16 : Int)) (65521 : Int))) fun (MU : Int) =>
  q7.l1 K K MS MT MU
def jZ.m (K : Nat) (MR : List UInt8) : qN Int :=
  (q7.m K (1 : Int) MR).bind fun MS =>
  .ok MS
def jm.m (K : Nat) (s3 : List UInt8) (limit4 : Int) : qN ((List UInt8) × Int × Int) :=
  cond ((decide (limit4 < (0 : Int))) || (decide (limit4 > (1073741824 : Int))))
    (
    .ok (([] : List UInt8), (0 : Int), (1 : Int)))
    (
    (YA.m K s3).bind fun _ =>
    (zR.m K (yd.mk s3 (0 : Int)) (0 : Int) (2 : Int)).bind fun (M3, M4) =>
    cond (M4 != (0 : Int))
      (
      .ok (([] : List UInt8), (0 : Int), M4))
      (
      cond (((((xE .u64 (xa .u64 M3 (8 : Int)) (15 : Int)) != (8 : Int)) || (decide ((xa .u64 M3 (12 : Int)) > (7 : Int)))) || ((vS M3 (31 : Int)) != (0 : Int))) || ((xE .u64 M3 (32 : Int)) != (0 : Int)))
        (
        .ok (([] : List UInt8), (0 : Int), (3 : Int)))
        (
        chk (subok (2 : Int) (s3.length : Int) s3.length) <|
        (zA.m K (sub s3 (2 : Int) (s3.length : Int)) limit4).bind fun (MS, MY, MT) =>
        cond (MT != (0 : Int))
          (
          .ok (([] : List UInt8), (0 : Int), MT))
          (
          lt ((qh (MY + (2 : Int)))) fun (MR : Int) =>
          (YA.m K s3).bind fun _ =>
          (zR.m K (yd.mk s3 (0 : Int)) MR (4 : Int)).bind fun (MZ, MU) =>
          lt ((MU != (0 : Int))) fun (MV : Bool) =>
          cond MV
            (
            .ok (([] : List UInt8), (0 : Int), MU))
            (
            (jZ.m K MS).bind fun M0 =>
            lt (((wr .u32 MZ) != M0)) fun (MW : Bool) =>
            cond MW
              (
              .ok (([] : List UInt8), (0 : Int), (4 : Int)))
              (
              lt ((qh (MR + (4 : Int)))) fun (MX : Int) =>
              .ok (MS, MX, (0 : Int))))))))
def yo.m (K : Nat) : qN Bool :=
  (jm.m K ([120, 156, 3, 0, 0, 0, 0, 1, 122] : List UInt8) (0 : Int)).bind fun (MS, MT, MU) =>
  (jm.m K ([120, 156, 3, 0, 0, 0, 0, 2] : List UInt8) (0 : Int)).bind fun (MX, MY, MV) =>
  (jm.m K ([120, 157] : List UInt8) (0 : Int)).bind fun (MZ, M0, MW) =>
  lt ((((((MS == ([] : List UInt8)) && (MT == (8 : Int))) && (MU == (0 : Int))) && (MV == (4 : Int))) && (MW == (3 : Int)))) fun (MR : Bool) =>
  .ok MR
def zu.j3 (K : Nat)  (MR : Int) (MS : Int) : qN Int :=
  chk (inb (wr .u8 MR) ([0, 1, 2, 2, 3, 3, 3, 3, 4, 4, 4, 4, 4, 4, 4, 4, 5, 5, 5, 5, 5, 5, 5, 5, 5, 5, 5, 5, 5, 5, 5, 5, 6, 6, 6, 6, 6, 6, 6, 6, 6, 6, 6, 6, 6, 6, 6, 6, 6, 6, 6, 6, 6, 6, 6, 6, 6, 6, 6, 6, 6, 6, 6, 6, 7, 7, 7, 7, 7, 7, 7, 7, 7, 7, 7, 7, 7, 7, 7, 7, 7, 7, 7, 7, 7, 7, 7, 7, 7, 7, 7, 7, 7, 7, 7, 7, 7, 7, 7, 7, 7, 7, 7, 7, 7, 7, 7, 7, 7, 7, 7, 7, 7, 7, 7, 7, 7, 7, 7, 7, 7, 7, 7, 7, 7, 7, 7, 7, 8, 8, 8, 8, 8, 8, 8, 8, 8, 8, 8, 8, 8, 8, 8, 8, 8, 8, 8, 8, 8, 8, 8, 8, 8, 8, 8, 8, 8, 8, 8, 8, 8, 8, 8, 8, 8, 8, 8, 8, 8, 8, 8, 8, 8, 8, 8, 8, 8, 8, 8, 8, 8, 8, 8, 8, 8, 8, 8, 8, 8, 8, 8, 8, 8, 8, 8, 8, 8, 8, 8, 8, 8, 8, 8, 8, 8, 8, 8, 8, 8, 8, 8, 8, 8, 8, 8, 8, 8, 8, 8, 8, 8, 8, 8, 8, 8, 8, 8, 8, 8, 8, 8, 8, 8, 8, 8, 8, 8, 8, 8, 8, 8, 8, 8, 8, 8, 8, 8, 8, 8, 8, 8, 8, 8, 8, 8, 8] : List UInt8).length) <|
  lt ((qh (MS + (wr .i64 ((rd ([0, 1, 2, 2, 3, 3, 3, 3, 4, 4, 4, 4, 4, 4, 4, 4, 5, 5, 5, 5, 5, 5, 5, 5, 5, 5, 5, 5, 5, 5, 5, 5, 6, 6, 6, 6, 6, 6, 6, 6, 6, 6, 6, 6, 6, 6, 6, 6, 6, 6, 6, 6, 6, 6, 6, 6, 6, 6, 6, 6, 6, 6, 6, 6, 7, 7, 7, 7, 7, 7, 7, 7, 7, 7, 7, 7, 7, 7, 7, 7, 7, 7, 7, 7, 7, 7, 7, 7, 7, 7, 7, 7, 7, 7, 7, 7, 7, 7, 7, 7, 7, 7, 7, 7, 7, 7, 7, 7, 7, 7, 7, 7, 7, 7, 7, 7, 7, 7, 7, 7, 7, 7, 7, 7, 7, 7, 7, 7, 8, 8, 8, 8, 8, 8, 8, 8, 8, 8, 8, 8, 8, 8, 8, 8, 8, 8, 8, 8, 8, 8, 8, 8, 8, 8, 8, 8, 8, 8, 8, 8, 8, 8, 8, 8, 8, 8, 8, 8, 8, 8, 8, 8, 8, 8, 8, 8, 8, 8, 8, 8, 8, 8, 8, 8, 8, 8, 8, 8, 8, 8, 8, 8, 8, 8, 8, 8, 8, 8, 8, 8, 8, 8, 8, 8, 8, 8, 8, 8, 8, 8, 8, 8, 8, 8, 8, 8, 8, 8, 8, 8, 8, 8, 8, 8, 8, 8, 8, 8, 8, 8, 8, 8, 8, 8, 8, 8, 8, 8, 8, 8, 8, 8, 8, 8, 8, 8, 8, 8, 8, 8, 8, 8, 8, 8, 8, 8] : List UInt8) (wr .u8 MR)).toNat : Int))))) fun (MT : Int) =>
  .ok MT
def zu.j2 (K : Nat)  (MS : Int) (MR : Int) : qN Int :=
  cond (decide (MS ≥ (256 : Int)))
    (
    lt ((xa .u64 MS (8 : Int))) fun (MU : Int) =>
    lt ((qh (MR + (8 : Int)))) fun (MT : Int) =>
    zu.j3 K MU MT)
    (
    zu.j3 K MS MR)
def zu.j1 (K : Nat)  (MS : Int) (MR : Int) : qN Int :=
  cond (decide (MS ≥ (65536 : Int)))
    (
    lt ((xa .u64 MS (16 : Int))) fun (MU : Int) =>
    lt ((qh (MR + (16 : Int)))) fun (MT : Int) =>
    zu.j2 K MU MT)
    (
    zu.j2 K MS MR)
def zu.m (K : Nat) (MR : Int) : qN Int :=
  cond (decide (MR ≥ (4294967296 : Int)))
    (
    lt ((xa .u64 MR (32 : Int))) fun (MS : Int) =>
    zu.j1 K MS (32 : Int))
    (
    zu.j1 K MR (0 : Int))
def xl.l1 (K : Nat) (MU : Int) (MR : Int) (MV : (List Int)) : Nat → (List Int) → Int → qN ((List UInt8) × Int)
  | 0, _, _ => .fail
  | k + 1, MT, MS =>
    cond (decide (MS < (MV.length : Int)))
      (
      chk (decide (0 ≤ (qh ((8 : Int) * MS)))) <|
      (yc.m K MS MR).bind fun MW =>
      chk (inb MW MT.length) <|
      lt (MT.set (Int.toNat MW) (wr .u8 (xa .u64 MU (qh ((8 : Int) * MS))))) fun (MX : (List Int)) =>
      xl.l1 K MU MR MV k MX (qh (MS + (1 : Int))))
      (
      lt ((MT.map ur)) fun (MY : List UInt8) =>
      .ok (MY, (0 : Int)))
def xl.m (K : Nat) (MS : Int) (MR : Int) : qN ((List UInt8) × Int) :=
  (vo.m K MR).bind fun MU =>
  cond (!MU)
    (
    .ok (([] : List UInt8), (1 : Int)))
    (
    (zu.m K MS).bind fun MV =>
    cond (decide (MV > (qh ((8 : Int) * MR))))
      (
      .ok (([] : List UInt8), (10 : Int)))
      (
      (yX.m K MR).bind fun _ =>
      chk (decide (0 ≤ MR) && room (Int.toNat MR) 1) <|
      lt (List.replicate (Int.toNat MR) (0 : Int)) fun (MT : (List Int)) =>
      xl.l1 K MS MR MT K MT (0 : Int)))
def yD.m (K : Nat) (MR : xn) (MS : Int) : qN Unit :=
  chk (inb MS MR.text_.length) <|
  chk (inb (qh (MS + (1 : Int))) MR.text_.length) <|
  chk (inb (qh (MS + (2 : Int))) MR.text_.length) <|
  .ok ()
def zw.j2 (K : Nat) (g1 : Int → qN Int) (MR : Int) (MT : Bool) : qN Int :=
  cond MT
    (
    lt ((qh (MR + (1 : Int)))) fun (MS : Int) =>
    g1 MS)
    (
    .ok MR)
def zw.l1 (K : Nat) (MS : xn) (MU : Int) (MT : Int) : Nat → Int → qN Int
  | 0, _ => .fail
  | k + 1, MR =>
    cond (decide (MR < (258 : Int)))
      (
      cond (decide ((qh (MT + MR)) < (MS.text_.length : Int)))
        (
        chk (inb (qh (MU + MR)) MS.text_.length) <|
        chk (inb (qh (MT + MR)) MS.text_.length) <|
        zw.j2 K (zw.l1 K MS MU MT k) MR (((rd MS.text_ (qh (MU + MR))).toNat : Int) == ((rd MS.text_ (qh (MT + MR))).toNat : Int)))
        (
        zw.j2 K (zw.l1 K MS MU MT k) MR false))
      (
      zw.j2 K (zw.l1 K MS MU MT k) MR false)
def zw.m (K : Nat) (MT : xn) (MR : Int) (MS : Int) : qN Int :=
  zw.l1 K MT MR MS K (0 : Int)
def zN.j2 (K : Nat)  (MS : Int) (MR : Int) : qN (Int × Int) :=
  .ok (MS, MR)
def zN.l1 (K : Nat) (MW : xn) (MV : Int) (MS : (List Int)) : Nat → Int → Int → Int → qN (Int × Int)
  | 0, _, _, _ => .fail
  | k + 1, MT, MU, MR =>
    cond ((decide (MR < (32 : Int))) && (decide (MR < (MS.length : Int))))
      (
      chk (inb (qh ((qh ((MS.length : Int) - (1 : Int))) - MR)) MS.length) <|
      lt ((rd MS (qh ((qh ((MS.length : Int) - (1 : Int))) - MR)))) fun (MZ : Int) =>
      cond (decide ((qh (MV - MZ)) > (32768 : Int)))
        (
        zN.j2 K MT MU)
        (
        (zw.m K MW MZ MV).bind fun M0 =>
        cond (decide (M0 > MT))
          (
          lt ((qh (MR + (1 : Int)))) fun (MX : Int) =>
          zN.l1 K MW MV MS k M0 (qh (MV - MZ)) MX)
          (
          lt ((qh (MR + (1 : Int)))) fun (MY : Int) =>
          zN.l1 K MW MV MS k MT MU MY)))
      (
      zN.j2 K MT MU)
def zN.m (K : Nat) (MR : xn) (MS : Int) : qN (Int × Int) :=
  cond (decide ((qh (MS + (3 : Int))) > (MR.text_.length : Int)))
    (
    .ok ((0 : Int), (0 : Int)))
    (
    (yD.m K MR MS).bind fun _ =>
    lt (vt MR.seen_ ([((rd MR.text_ MS).toNat : Int), ((rd MR.text_ (qh (MS + (1 : Int)))).toNat : Int), ((rd MR.text_ (qh (MS + (2 : Int)))).toNat : Int)] : List Int)) fun (MT : (List Int)) =>
    zN.l1 K MR MS MT K (0 : Int) (0 : Int) (0 : Int))
def yF.m (K : Nat) (MR : xn) (MS : Int) : qN (List ((List Int) × (List Int))) :=
  cond (decide ((qh (MS + (3 : Int))) ≤ (MR.text_.length : Int)))
    (
    (yD.m K MR MS).bind fun _ =>
    lt (vt MR.seen_ ([((rd MR.text_ MS).toNat : Int), ((rd MR.text_ (qh (MS + (1 : Int)))).toNat : Int), ((rd MR.text_ (qh (MS + (2 : Int)))).toNat : Int)] : List Int)) fun (MT : (List Int)) =>
    chk (room (MT.length + ([MS] : List Int).length) 8) <|
    lt (MT ++ ([MS] : List Int)) fun (MU : (List Int)) =>
    lt (Q3 MR.seen_ ([((rd MR.text_ MS).toNat : Int), ((rd MR.text_ (qh (MS + (1 : Int)))).toNat : Int), ((rd MR.text_ (qh (MS + (2 : Int)))).toNat : Int)] : List Int) MU) fun (MV : (List ((List Int) × (List Int)))) =>
    .ok MV)
    (
    .ok MR.seen_)
def zV.l3 (K : Nat) (g1 : (List ((List Int) × (List Int))) → (List qM) → Int → qN (List qM)) (MW : List UInt8) (MR : Int) (MV : (List qM)) : Nat → (List ((List Int) × (List Int))) → Int → Int → qN (List qM)
  | 0, _, _, _ => .fail
  | k + 1, MS, MT, MX =>
    cond (decide (MX < (if MR > (1 : Int) then MR else (1 : Int))))
      (
      (yF.m K (xn.mk MW MS) MT).bind fun MU =>
      lt ((qh (MT + (1 : Int)))) fun (MY : Int) =>
      zV.l3 K g1 MW MR MV k MU MY (qh (MX + (1 : Int))))
      (
      g1 MS MV MT)
def zV.j2 (K : Nat) (g1 : (List ((List Int) × (List Int))) → (List qM) → Int → qN (List qM)) (MY : List UInt8) (MV : (List ((List Int) × (List Int)))) (MU : (List qM)) (MX : Int) (MT : Int) (MR : Int) (MS : Int) : qN (List qM) :=
  chk (room (MU.length + ([(qM.mk MT MR MS)] : List qM).length) 24) <|
  lt (MU ++ ([(qM.mk MT MR MS)] : List qM)) fun (MW : (List qM)) =>
  zV.l3 K (g1) MY MR MW K MV MX (0 : Int)
def zV.l1 (K : Nat) (MR : List UInt8) : Nat → (List ((List Int) × (List Int))) → (List qM) → Int → qN (List qM)
  | 0, _, _, _ => .fail
  | k + 1, MS, MU, MT =>
    cond (decide (MT < (MR.length : Int)))
      (
      (zN.m K (xn.mk MR MS) MT).bind fun (MV, MW) =>
      cond (decide (MV < (3 : Int)))
        (
        chk (inb MT MR.length) <|
        zV.j2 K (zV.l1 K MR k) MR MS MU MT ((rd MR MT).toNat : Int) (0 : Int) (0 : Int))
        (
        zV.j2 K (zV.l1 K MR k) MR MS MU MT (0 : Int) MV MW))
      (
      .ok MU)
def zV.m (K : Nat) (MR : List UInt8) : qN (List qM) :=
  zV.l1 K MR K ([] : List ((List Int) × (List Int))) ([] : List qM) (0 : Int)
def zT.j2 (K : Nat) (g1 : (List UInt8) → (List Int) → qN (List UInt8)) (MT : List UInt8) (MU : (List Int)) (MR : Int) (MS : Int) : qN (List UInt8) :=
  chk (room (MU.length + ([MS, (wr .u8 MR), (wr .u8 (xa .i64 MR (8 : Int))), (QO .u8 (wr .u8 MR)), (QO .u8 (wr .u8 (xa .i64 MR (8 : Int))))] : List Int).length) 1) <|
  lt (MU ++ ([MS, (wr .u8 MR), (wr .u8 (xa .i64 MR (8 : Int))), (QO .u8 (wr .u8 MR)), (QO .u8 (wr .u8 (xa .i64 MR (8 : Int))))] : List Int)) fun (MV : (List Int)) =>
  chk (subok (0 : Int) MR MT.length) <|
  chk (room (MV.length + (sub MT (0 : Int) MR).length) 1) <|
  lt (MV ++ (sub MT (0 : Int) MR).map uY) fun (MW : (List Int)) =>
  chk (subok MR (MT.length : Int) MT.length) <|
  lt ((sub MT MR (MT.length : Int))) fun (MX : List UInt8) =>
  cond (MS == (1 : Int))
    (
    lt ((MW.map ur)) fun (MY : List UInt8) =>
    .ok MY)
    (
    g1 MX MW)
def zT.l1 (K : Nat)  : Nat → (List UInt8) → (List Int) → qN (List UInt8)
  | 0, _, _ => .fail
  | k + 1, MR, MT =>
    lt ((if (MR.length : Int) < (65535 : Int) then (MR.length : Int) else (65535 : Int))) fun (MS : Int) =>
    cond (MS == (MR.length : Int))
      (
      zT.j2 K (zT.l1 K k) MR MT MS (1 : Int))
      (
      zT.j2 K (zT.l1 K k) MR MT MS (0 : Int))
def zT.m (K : Nat) (MR : List UInt8) : qN (List UInt8) :=
  zT.l1 K K MR ([] : List Int)
def vT.m (K : Nat) (MR : qM) : qN Bool :=
  cond (MR.Dist_ == (0 : Int))
    (
    lt ((MR.Len_ == (0 : Int))) fun (MS : Bool) =>
    .ok MS)
    (
    lt ((((((decide (MR.Dist_ > (0 : Int))) && (decide (MR.Dist_ ≤ (32768 : Int)))) && (decide (MR.Len_ ≥ (3 : Int)))) && (decide (MR.Len_ ≤ (258 : Int)))) && (MR.Lit_ == (0 : Int)))) fun (MT : Bool) =>
    .ok MT)
def yb.l1 (K : Nat) (MR : Int) : Nat → Int → Int → qN Int
  | 0, _, _ => .fail
  | k + 1, MT, MS =>
    chk (decide (0 ≤ MR)) <|
    cond (decide (MT ≥ (z7 .i64 (2 : Int) MR)))
      (
      lt ((xa .i64 MT (1 : Int))) fun (MV : Int) =>
      lt ((qh (MS + (1 : Int)))) fun (MU : Int) =>
      yb.l1 K MR k MV MU)
      (
      .ok MS)
def yb.m (K : Nat) (MS : Int) (MR : Int) : qN Int :=
  yb.l1 K MR K MS (0 : Int)
def yS.m (K : Nat) (MR : Int) : qN Int :=
  lt ((MR == (258 : Int))) fun (MS : Bool) =>
  cond MS
    (
    .ok (8 : Int))
    (
    lt ((decide (MR ≥ (115 : Int)))) fun (MT : Bool) =>
    cond MT
      (
      (yb.m K (qh (MR - (3 : Int))) (2 : Int)).bind fun MW =>
      lt ((qh ((8 : Int) + MW))) fun (MU : Int) =>
      .ok MU)
      (
      (yb.m K (qh (MR - (3 : Int))) (2 : Int)).bind fun MX =>
      lt ((qh ((7 : Int) + MX))) fun (MV : Int) =>
      .ok MV))
def x4.l1 (K : Nat) (MR : List qM) : Nat → Int → Int → qN (Int × Int)
  | 0, _, _ => .fail
  | k + 1, MT, MS =>
    cond (decide (MS < (MR.length : Int)))
      (
      chk (inb MS MR.length) <|
      (vT.m K (qM.mk ((rd MR MS).Lit_) ((rd MR MS).Len_) ((rd MR MS).Dist_))).bind fun M0 =>
      lt ((!M0)) fun (MX : Bool) =>
      cond MX
        (
        .ok ((0 : Int), (1 : Int)))
        (
        lt ((((rd MR MS).Dist_ == (0 : Int)) && (decide ((rd MR MS).Lit_ < (144 : Int))))) fun (MY : Bool) =>
        cond MY
          (
          lt ((qh (MT + (8 : Int)))) fun (MU : Int) =>
          x4.l1 K MR k MU (qh (MS + (1 : Int))))
          (
          lt (((rd MR MS).Dist_ == (0 : Int))) fun (MZ : Bool) =>
          cond MZ
            (
            lt ((qh (MT + (9 : Int)))) fun (MV : Int) =>
            x4.l1 K MR k MV (qh (MS + (1 : Int))))
            (
            (yS.m K ((rd MR MS).Len_)).bind fun M3 =>
            (yb.m K (qh ((rd MR MS).Dist_ - (1 : Int))) (1 : Int)).bind fun M4 =>
            lt ((qh (MT + (qh ((qh (M3 + (5 : Int))) + M4))))) fun (MW : Int) =>
            x4.l1 K MR k MW (qh (MS + (1 : Int)))))))
      (
      .ok (MT, (0 : Int)))
def x4.m (K : Nat) (MR : List qM) : qN (Int × Int) :=
  x4.l1 K MR K (7 : Int) (0 : Int)
def jn.m (K : Nat) (MR : List qM) : qN Bool :=
  (x4.m K MR).bind fun (MU, MT) =>
  lt ((MT == (0 : Int))) fun (MS : Bool) =>
  .ok MS
def zI.j2 (K : Nat)  (MR : (List Int)) : qN (List Int) :=
  .ok MR
def zI.l1 (K : Nat) (MU : List Int) : Nat → (List Int) → Int → Int → qN (List Int)
  | 0, _, _, _ => .fail
  | k + 1, MS, MV, MR =>
    cond (decide (MR ≤ (15 : Int)))
      (
      chk (inb (qh (MR - (1 : Int))) 16) <|
      lt ((z7 .i64 (qh (MV + (rd MU (qh (MR - (1 : Int)))))) (1 : Int))) fun (MT : Int) =>
      chk (inb MR 16) <|
      lt (MS.set (Int.toNat MR) MT) fun (MX : (List Int)) =>
      lt ((qh (MR + (1 : Int)))) fun (MW : Int) =>
      zI.l1 K MU k MX MT MW)
      (
      zI.j2 K MS)
def zI.m (K : Nat) (MR : List Int) : qN (List Int) :=
  zI.l1 K MR K (List.replicate 16 (0 : Int)) (0 : Int) (1 : Int)
def x9.l1 (K : Nat) (MR : List Int) : Nat → (List Int) → (List Int) → Int → qN ((List Int) × Int)
  | 0, _, _, _ => .fail
  | k + 1, MS, MT, MV =>
    cond (decide (MV < (MR.length : Int)))
      (
      chk (inb MV MR.length) <|
      lt ((rd MR MV)) fun (MU : Int) =>
      cond (decide (MU > (0 : Int)))
        (
        chk (inb MU 16) <|
        chk (inb MV MT.length) <|
        lt (MT.set (Int.toNat MV) (rd MS MU)) fun (MW : (List Int)) =>
        lt (MS.set (Int.toNat MU) (qh ((rd MS MU) + (1 : Int)))) fun (MX : (List Int)) =>
        x9.l1 K MR k MX MW (qh (MV + (1 : Int))))
        (
        x9.l1 K MR k MS MT (qh (MV + (1 : Int)))))
      (
      .ok (MT, (0 : Int)))
def x9.m (K : Nat) (MR : List Int) : qN ((List Int) × Int) :=
  (xr.m K MR).bind fun MS =>
  cond (MS != (0 : Int))
    (
    .ok (([] : List Int), MS))
    (
    (xg.m K MR).bind fun (MU, MW) =>
    (zI.m K MU).bind fun MV =>
    chk (decide (0 ≤ (MR.length : Int)) && room (Int.toNat (MR.length : Int)) 8) <|
    lt (List.replicate (Int.toNat (MR.length : Int)) (0 : Int)) fun (MT : (List Int)) =>
    x9.l1 K MR K MV MT (0 : Int))
def ye.m (K : Nat) (MR : List Int) : qN (List Int) :=
  (x9.m K MR).bind fun (MS, MT) =>
  .ok MS
def qZ.j4 (K : Nat) (MT : (List Int)) (MU : (List Int)) : qN ((List Int) × (List Int) × (List Int) × (List Int)) :=
  (ye.m K MT).bind fun MR =>
  (ye.m K MU).bind fun MS =>
  .ok (MT, MR, MU, MS)
def qZ.l3 (K : Nat) (MT : (List Int)) (MU : (List Int)) : Nat → (List Int) → Int → qN ((List Int) × (List Int) × (List Int) × (List Int))
  | 0, _, _ => .fail
  | k + 1, MS, MR =>
    cond (decide (MR < (MU.length : Int)))
      (
      chk (inb MR MS.length) <|
      lt (MS.set (Int.toNat MR) (5 : Int)) fun (MV : (List Int)) =>
      qZ.l3 K MT MU k MV (qh (MR + (1 : Int))))
      (
      qZ.j4 K MT MS)
def qZ.j2 (K : Nat)  (MS : (List Int)) : qN ((List Int) × (List Int) × (List Int) × (List Int)) :=
  chk (decide (0 ≤ (32 : Int)) && room (Int.toNat (32 : Int)) 8) <|
  lt (List.replicate (Int.toNat (32 : Int)) (0 : Int)) fun (MR : (List Int)) =>
  qZ.l3 K MS MR K MR (0 : Int)
def qZ.l1 (K : Nat) (MT : (List Int)) : Nat → (List Int) → Int → qN ((List Int) × (List Int) × (List Int) × (List Int))
  | 0, _, _ => .fail
  | k + 1, MS, MR =>
    cond (decide (MR < (MT.length : Int)))
      (
      lt (((decide (MR < (144 : Int))) || (decide (MR ≥ (280 : Int))))) fun (MX : Bool) =>
      cond MX
        (
        chk (inb MR MS.length) <|
        lt (MS.set (Int.toNat MR) (8 : Int)) fun (MU : (List Int)) =>
        qZ.l1 K MT k MU (qh (MR + (1 : Int))))
        (
        lt ((decide (MR < (256 : Int)))) fun (MY : Bool) =>
        cond MY
          (
          chk (inb MR MS.length) <|
          lt (MS.set (Int.toNat MR) (9 : Int)) fun (MV : (List Int)) =>
          qZ.l1 K MT k MV (qh (MR + (1 : Int))))
          (
          chk (inb MR MS.length) <|
          lt (MS.set (Int.toNat MR) (7 : Int)) fun (MW : (List Int)) =>
          qZ.l1 K MT k MW (qh (MR + (1 : Int))))))
      (
      qZ.j2 K MS)
def qZ.m (K : Nat) : qN ((List Int) × (List Int) × (List Int) × (List Int)) :=
  chk (decide (0 ≤ (288 : Int)) && room (Int.toNat (288 : Int)) 8) <|
  lt (List.replicate (Int.toNat (288 : Int)) (0 : Int)) fun (MR : (List Int)) =>
  qZ.l1 K MR K MR (0 : Int)
def qn.j2 (K : Nat) (g1 : Int → (List Int) → Int → Int → qN (Int × Int × (List Int))) (MR : Int) (MV : Int) (MU : Int) (MT : (List Int)) : qN (Int × Int × (List Int)) :=
  lt ((if MU < (qh ((8 : Int) - (xE .i64 MR (7 : Int)))) then MU else (qh ((8 : Int) - (xE .i64 MR (7 : Int)))))) fun (MS : Int) =>
  chk (inb (yR .i64 MR (8 : Int)) MT.length) <|
  chk (decide (0 ≤ MS)) <|
  chk (decide (0 ≤ (xE .i64 MR (7 : Int)))) <|
  lt (MT.set (Int.toNat (yR .i64 MR (8 : Int))) (QP .u8 (rd MT (yR .i64 MR (8 : Int))) (z7 .u8 (wr .u8 (xE .u32 MV (wr .u32 ((z7 .u32 (1 : Int) MS) - (1 : Int))))) (xE .i64 MR (7 : Int))))) fun (MX : (List Int)) =>
  lt ((xa .u32 MV MS)) fun (MY : Int) =>
  lt ((qh (MU - MS))) fun (MW : Int) =>
  g1 (qh (MR + MS)) MX MY MW
def qn.l1 (K : Nat)  : Nat → Int → (List Int) → Int → Int → qN (Int × Int × (List Int))
  | 0, _, _, _, _ => .fail
  | k + 1, MS, MR, MU, MT =>
    cond (decide (MT > (0 : Int)))
      (
      cond ((xE .i64 MS (7 : Int)) == (0 : Int))
        (
        chk (room (MR.length + ([(0 : Int)] : List Int).length) 1) <|
        lt (MR ++ ([(0 : Int)] : List Int)) fun (MV : (List Int)) =>
        qn.j2 K (qn.l1 K k) MS MU MT MV)
        (
        qn.j2 K (qn.l1 K k) MS MU MT MR))
      (
      .ok ((0 : Int), MS, MR))
def qn.m (K : Nat) (MS : qp) (MT : Int) (MR : Int) : qN (Int × Int × (List Int)) :=
  chk (imp false ((decide (MR < (0 : Int))) || (decide (MR > (32 : Int)))) (decide (0 ≤ MR))) <|
  cond (((decide (MR < (0 : Int))) || (decide (MR > (32 : Int)))) || (decide ((xa .u64 (wr .u64 MT) MR) > (0 : Int))))
    (
    .ok ((1 : Int), MS.Writer_.place_.at_, MS.Writer_.bytes_))
    (
    qn.l1 K K MS.Writer_.place_.at_ MS.Writer_.bytes_ MT MR)
def zJ.l1 (K : Nat) (MR : qp) (MW : Int) : Nat → Int → (List Int) → Int → qN (Int × (List Int))
  | 0, _, _, _ => .fail
  | k + 1, MT, MS, MU =>
    cond (decide (MU ≥ (0 : Int)))
      (
      chk (inb MW MR.literals_.codes_.length) <|
      chk (decide (0 ≤ MU)) <|
      (qn.m K (qp.mk (qR.mk (qr.mk MT) MS) MR.literals_ MR.distances_) (wr .u32 (xE .i64 (xa .i64 (rd MR.literals_.codes_ MW) MU) (1 : Int))) (1 : Int)).bind fun (MZ, MX, MV) =>
      lt ((qh (MU - (1 : Int)))) fun (MY : Int) =>
      zJ.l1 K MR MW k MX MV MY)
      (
      .ok (MT, MS))
def zJ.m (K : Nat) (MR : qp) (MU : qv) (MS : Int) : qN (Int × (List Int)) :=
  chk (inb MS MR.literals_.lengths_.length) <|
  lt ((qh ((rd MR.literals_.lengths_ MS) - (1 : Int)))) fun (MT : Int) =>
  zJ.l1 K MR MS K MR.Writer_.place_.at_ MR.Writer_.bytes_ MT
def z5.j2 (K : Nat) (MU : Int) (MS : Int) (MR : Int) (MT : Int) : qN (Int × Int × Int) :=
  chk (decide (0 ≤ MS)) <|
  chk (decide (0 ≤ MR)) <|
  .ok ((qh ((z7 .i64 MR MS) + MT)), MR, (wr .u32 (qh (MU - (z7 .i64 MT MR)))))
def z5.l1 (K : Nat) (MU : Int) (MR : Int) : Nat → Int → Int → qN (Int × Int × Int)
  | 0, _, _ => .fail
  | k + 1, MT, MS =>
    chk (decide (0 ≤ MR)) <|
    cond (decide (MS ≥ (z7 .i64 (2 : Int) MR)))
      (
      lt ((xa .i64 MS (1 : Int))) fun (MV : Int) =>
      lt ((qh (MT + (1 : Int)))) fun (MW : Int) =>
      z5.l1 K MU MR k MW MV)
      (
      z5.j2 K MU MR MT MS)
def z5.m (K : Nat) (MR : Int) (MS : Int) : qN (Int × Int × Int) :=
  z5.l1 K MR MS K (0 : Int) MR
def yP.m (K : Nat) (MU : Int) : qN (Int × Int × Int) :=
  cond (MU == (258 : Int))
    (
    .ok ((285 : Int), (0 : Int), (0 : Int)))
    (
    (z5.m K (qh (MU - (3 : Int))) (2 : Int)).bind fun (MR, MS, MT) =>
    .ok ((qh (MR + (257 : Int))), MS, MT))
def yf.m (K : Nat) (MR : qp) (MX : qv) (MU : xV) : qN (Int × (List Int)) :=
  (zJ.m K MR MR.literals_ MU.symbol_).bind fun (MV, MS) =>
  (qn.m K (qp.mk (qR.mk (qr.mk MV) MS) MR.literals_ MR.distances_) MU.more_ MU.bits_).bind fun (MY, MW, MT) =>
  .ok (MW, MT)
def yz.m (K : Nat) (MU : Int) : qN (Int × Int × Int) :=
  (z5.m K (qh (MU - (1 : Int))) (1 : Int)).bind fun (MR, MS, MT) =>
  .ok (MR, MS, MT)
def z1.l1 (K : Nat) (MR : qp) (MW : Int) : Nat → Int → (List Int) → Int → qN (Int × (List Int))
  | 0, _, _, _ => .fail
  | k + 1, MT, MS, MU =>
    cond (decide (MU ≥ (0 : Int)))
      (
      chk (inb MW MR.distances_.codes_.length) <|
      chk (decide (0 ≤ MU)) <|
      (qn.m K (qp.mk (qR.mk (qr.mk MT) MS) MR.literals_ MR.distances_) (wr .u32 (xE .i64 (xa .i64 (rd MR.distances_.codes_ MW) MU) (1 : Int))) (1 : Int)).bind fun (MZ, MX, MV) =>
      lt ((qh (MU - (1 : Int)))) fun (MY : Int) =>
      z1.l1 K MR MW k MX MV MY)
      (
      .ok (MT, MS))
def z1.m (K : Nat) (MR : qp) (MU : qv) (MS : Int) : qN (Int × (List Int)) :=
  chk (inb MS MR.distances_.lengths_.length) <|
  lt ((qh ((rd MR.distances_.lengths_ MS) - (1 : Int)))) fun (MT : Int) =>
  z1.l1 K MR MS K MR.Writer_.place_.at_ MR.Writer_.bytes_ MT
def yg.m (K : Nat) (MR : qp) (MX : qv) (MU : xV) : qN (Int × (List Int)) :=
  (z1.m K MR MR.distances_ MU.symbol_).bind fun (MV, MS) =>
  (qn.m K (qp.mk (qR.mk (qr.mk MV) MS) MR.literals_ MR.distances_) MU.more_ MU.bits_).bind fun (MY, MW, MT) =>
  .ok (MW, MT)
def zi.j2 (K : Nat) (MR : qp) (MU : Int) (MS : (List Int)) : qN (Int × (List Int)) :=
  (zJ.m K (qp.mk (qR.mk (qr.mk MU) MS) MR.literals_ MR.distances_) MR.literals_ (256 : Int)).bind fun (MV, MT) =>
  .ok (MV, MT)
def zi.l1 (K : Nat) (MR : qp) (MS : List qM) : Nat → Int → (List Int) → Int → qN (Int × (List Int))
  | 0, _, _, _ => .fail
  | k + 1, MV, MT, MU =>
    cond (decide (MU < (MS.length : Int)))
      (
      chk (inb MU MS.length) <|
      cond ((rd MS MU).Dist_ == (0 : Int))
        (
        (zJ.m K (qp.mk (qR.mk (qr.mk MV) MT) MR.literals_ MR.distances_) MR.literals_ (wr .i64 (rd MS MU).Lit_)).bind fun (M7, MY) =>
        zi.l1 K MR MS k M7 MY (qh (MU + (1 : Int))))
        (
        (yP.m K ((rd MS MU).Len_)).bind fun (MW, M3, M5) =>
        (yf.m K (qp.mk (qR.mk (qr.mk MV) MT) MR.literals_ MR.distances_) MR.literals_ (xV.mk MW M3 M5)).bind fun (M8, MZ) =>
        (yz.m K ((rd MS MU).Dist_)).bind fun (MX, M4, M6) =>
        (yg.m K (qp.mk (qR.mk (qr.mk M8) MZ) MR.literals_ MR.distances_) MR.distances_ (xV.mk MX M4 M6)).bind fun (M9, M0) =>
        zi.l1 K MR MS k M9 M0 (qh (MU + (1 : Int)))))
      (
      zi.j2 K MR MV MT)
def zi.m (K : Nat) (MR : qp) (MS : List qM) : qN (Int × (List Int)) :=
  zi.l1 K MR MS K MR.Writer_.place_.at_ MR.Writer_.bytes_ (0 : Int)
def zX.m (K : Nat) (MR : qp) : qN (List UInt8) :=
  lt ((MR.Writer_.bytes_.map ur)) fun (MS : List UInt8) =>
  .ok MS
def jw.m (K : Nat) (MX : List qM) : qN ((List UInt8) × Int) :=
  (jn.m K MX).bind fun M0 =>
  cond (!M0)
    (
    .ok (([] : List UInt8), (1 : Int)))
    (
    (qZ.m K).bind fun (MR, MT, MS, MU) =>
    (qn.m K (qp.mk (qR.mk (qr.mk (0 : Int)) ([] : List Int)) (qv.mk MR MT) (qv.mk MS MU)) (3 : Int) (3 : Int)).bind fun (M4, MY, MV) =>
    (zi.m K (qp.mk (qR.mk (qr.mk MY) MV) (qv.mk MR MT) (qv.mk MS MU)) MX).bind fun (MZ, MW) =>
    (zX.m K (qp.mk (qR.mk (qr.mk MZ) MW) (qv.mk MR MT) (qv.mk MS MU))).bind fun M3 =>
    .ok (M3, (0 : Int)))
def jM.m (K : Nat) (MR : Int) : qN Bool :=
  lt (((decide (MR < (0 : Int))) || (decide (MR > (1099511627776 : Int))))) fun (MS : Bool) =>
  .ok MS
def zx.l1 (K : Nat) (MS : List Int) : Nat → Int → qN Int
  | 0, _ => .fail
  | k + 1, MR =>
    cond (decide (MR < (MS.length : Int)))
      (
      chk (inb MR MS.length) <|
      (jM.m K (rd MS MR)).bind fun MT =>
      cond MT
        (
        .ok MR)
        (
        zx.l1 K MS k (qh (MR + (1 : Int)))))
      (
      .ok (-1 : Int))
def zx.m (K : Nat) (MR : List Int) : qN Int :=
  zx.l1 K MR K (0 : Int)
def xB.m (K : Nat) (MR : List Int) : qN Bool :=
  (zx.m K MR).bind fun MT =>
  lt ((decide (MT ≥ (0 : Int)))) fun (MS : Bool) =>
  .ok MS
def jd.m (K : Nat) (MR : Int) : qN Bool :=
  lt ((MR != MR)) fun (MS : Bool) =>
  .ok MS
def yO.m (K : Nat) (MR : Int) (MS : Int) : qN Int :=
  (jd.m K MR).bind fun MU =>
  (jd.m K MS).bind fun MT =>
  cond MU
    (
    cond MT
      (
      .ok (0 : Int))
      (
      .ok (-1 : Int)))
    (
    cond MT
      (
      .ok (1 : Int))
      (
      cond (decide (MR < MS))
        (
        .ok (-1 : Int))
        (
        cond (decide (MR > MS))
          (
          .ok (1 : Int))
          (
          .ok (0 : Int)))))
def xQ.m (K : Nat) (MR : qb) (MT : qb) : qN Int :=
  (yO.m K MR.often_ MT.often_).bind fun MS =>
  .ok MS
def qc.j3 (K : Nat) (g1 : (List qb) → Int → qN (List qb)) (g2 : (List qb) → Int → qN (List qb)) (MV : Int) (MR : (List qb)) (MS : Int) (MY : Bool) : qN (List qb) :=
  cond MY
    (
    chk (inb (qh (MS - (1 : Int))) MR.length) <|
    chk (inb MS MR.length) <|
    lt (MR.set (Int.toNat MS) (qb.mk ((rd MR (qh (MS - (1 : Int)))).often_) ((rd MR (qh (MS - (1 : Int)))).symbols_))) fun (MT : (List qb)) =>
    chk (inb (qh (MS - (1 : Int))) MT.length) <|
    lt (MT.set (Int.toNat (qh (MS - (1 : Int)))) (qb.mk ((rd MR MS).often_) ((rd MR MS).symbols_))) fun (MU : (List qb)) =>
    lt ((qh (MS - (1 : Int)))) fun (MX : Int) =>
    g2 MU MX)
    (
    lt ((qh (MV + (1 : Int)))) fun (MW : Int) =>
    g1 MR MW)
def qc.l2 (K : Nat) (g1 : (List qb) → Int → qN (List qb)) (MT : Int) (MU : Int) : Nat → (List qb) → Int → qN (List qb)
  | 0, _, _ => .fail
  | k + 1, MR, MS =>
    cond (decide (MS > MT))
      (
      chk (inb MS MR.length) <|
      chk (inb (qh (MS - (1 : Int))) MR.length) <|
      (xQ.m K (qb.mk ((rd MR MS).often_) ((rd MR MS).symbols_)) (qb.mk ((rd MR (qh (MS - (1 : Int)))).often_) ((rd MR (qh (MS - (1 : Int)))).symbols_))).bind fun MV =>
      qc.j3 K (g1) (qc.l2 K g1 MT MU k) MU MR MS (decide (MV < (0 : Int))))
      (
      qc.j3 K (g1) (qc.l2 K g1 MT MU k) MU MR MS false)
def qc.l1 (K : Nat) (MS : Int) (MT : Int) : Nat → (List qb) → Int → qN (List qb)
  | 0, _, _ => .fail
  | k + 1, MR, MU =>
    cond (decide (MU < MT))
      (
      qc.l2 K (qc.l1 K MS MT k) MS MU K MR MU)
      (
      .ok MR)
def qc.m (K : Nat) (MS : List qb) (MR : Int) (MT : Int) : qN (List qb) :=
  lt ((qh (MR + (1 : Int)))) fun (MU : Int) =>
  qc.l1 K MR MT K MS MU
def qI.l1 (K : Nat) (MU : Int) (MT : Int) (MV : Int) : Nat → (List qb) → Int → qN (List qb)
  | 0, _, _ => .fail
  | k + 1, MR, MS =>
    cond (decide (MS < MV))
      (
      chk (inb (qh (MT + MS)) MR.length) <|
      chk (inb (qh (MU + MS)) MR.length) <|
      lt (MR.set (Int.toNat (qh (MU + MS))) (qb.mk ((rd MR (qh (MT + MS))).often_) ((rd MR (qh (MT + MS))).symbols_))) fun (MW : (List qb)) =>
      chk (inb (qh (MT + MS)) MW.length) <|
      lt (MW.set (Int.toNat (qh (MT + MS))) (qb.mk ((rd MR (qh (MU + MS))).often_) ((rd MR (qh (MU + MS))).symbols_))) fun (MX : (List qb)) =>
      lt ((qh (MS + (1 : Int)))) fun (MY : Int) =>
      qI.l1 K MU MT MV k MX MY)
      (
      .ok MR)
def qI.m (K : Nat) (MR : List qb) (MS : Int) (MT : Int) (MU : Int) : qN (List qb) :=
  qI.l1 K MS MT MU K MR (0 : Int)
def qw.j2 (K : Nat) (MU : Int) (MR : (List qb)) (MT : Int) : qN (List qb) :=
  (qI.m K MR (qh (MU - MT)) MU MT).bind fun MS =>
  .ok MS
def qw.l1 (K : Nat) (MU : Int) : Nat → (List qb) → Int → Int → qN (List qb)
  | 0, _, _, _ => .fail
  | k + 1, MS, MR, MT =>
    cond (MR != MT)
      (
      cond (decide (MR > MT))
        (
        (qI.m K MS (qh (MU - MR)) MU MT).bind fun MV =>
        lt ((qh (MR - MT))) fun (MX : Int) =>
        qw.l1 K MU k MV MX MT)
        (
        (qI.m K MS (qh (MU - MR)) (qh ((qh (MU + MT)) - MR)) MR).bind fun MW =>
        lt ((qh (MT - MR))) fun (MY : Int) =>
        qw.l1 K MU k MW MR MY))
      (
      qw.j2 K MU MS MR)
def qw.m (K : Nat) (MR : List qb) (MT : Int) (MS : Int) (MU : Int) : qN (List qb) :=
  lt ((qh (MS - MT))) fun (MV : Int) =>
  lt ((qh (MU - MS))) fun (MW : Int) =>
  qw.l1 K MS K MR MV MW
def qa.l3 (K : Nat) (rc : (List qb) → Int → Int → Int → qN (List qb)) (MU : Int) : Nat → (List qb) → Int → qN (List qb)
  | 0, _, _ => .fail
  | k + 1, MR, MS =>
    cond (decide (MS < (qh (MU - (1 : Int)))))
      (
      chk (inb (qh (MS + (1 : Int))) MR.length) <|
      chk (inb MS MR.length) <|
      lt (MR.set (Int.toNat MS) (qb.mk ((rd MR (qh (MS + (1 : Int)))).often_) ((rd MR (qh (MS + (1 : Int)))).symbols_))) fun (MT : (List qb)) =>
      chk (inb (qh (MS + (1 : Int))) MT.length) <|
      lt (MT.set (Int.toNat (qh (MS + (1 : Int)))) (qb.mk ((rd MR MS).often_) ((rd MR MS).symbols_))) fun (MW : (List qb)) =>
      lt ((qh (MS + (1 : Int)))) fun (MV : Int) =>
      qa.l3 K rc MU k MW MV)
      (
      .ok MR)
def qa.j2 (K : Nat) (rc : (List qb) → Int → Int → Int → qN (List qb)) (MR : List qb) (MS : Int) (MT : Int) : qN (List qb) :=
  qa.l3 K rc MT K MR MS
def qa.l1 (K : Nat) (rc : (List qb) → Int → Int → Int → qN (List qb)) (MR : List qb) (MS : Int) : Nat → Int → Int → qN (List qb)
  | 0, _, _ => .fail
  | k + 1, MU, MV =>
    cond (decide (MU < MV))
      (
      lt ((wr .i64 (xa .u64 (wr .u64 (qh (MU + MV))) (1 : Int)))) fun (MT : Int) =>
      chk (inb MT MR.length) <|
      chk (inb MS MR.length) <|
      (xQ.m K (qb.mk ((rd MR MT).often_) ((rd MR MT).symbols_)) (qb.mk ((rd MR MS).often_) ((rd MR MS).symbols_))).bind fun MX =>
      cond (decide (MX < (0 : Int)))
        (
        lt ((qh (MT + (1 : Int)))) fun (MW : Int) =>
        qa.l1 K rc MR MS k MW MV)
        (
        qa.l1 K rc MR MS k MU MT))
      (
      qa.j2 K rc MR MS MU)
def qa.l7 (K : Nat) (rc : (List qb) → Int → Int → Int → qN (List qb)) (MU : Int) : Nat → (List qb) → Int → qN (List qb)
  | 0, _, _ => .fail
  | k + 1, MR, MS =>
    cond (decide (MS > MU))
      (
      chk (inb (qh (MS - (1 : Int))) MR.length) <|
      chk (inb MS MR.length) <|
      lt (MR.set (Int.toNat MS) (qb.mk ((rd MR (qh (MS - (1 : Int)))).often_) ((rd MR (qh (MS - (1 : Int)))).symbols_))) fun (MT : (List qb)) =>
      chk (inb (qh (MS - (1 : Int))) MT.length) <|
      lt (MT.set (Int.toNat (qh (MS - (1 : Int)))) (qb.mk ((rd MR MS).often_) ((rd MR MS).symbols_))) fun (MW : (List qb)) =>
      lt ((qh (MS - (1 : Int)))) fun (MV : Int) =>
      qa.l7 K rc MU k MW MV)
      (
      .ok MR)
def qa.j6 (K : Nat) (rc : (List qb) → Int → Int → Int → qN (List qb)) (MR : List qb) (MT : Int) (MS : Int) : qN (List qb) :=
  qa.l7 K rc MS K MR MT
def qa.l5 (K : Nat) (rc : (List qb) → Int → Int → Int → qN (List qb)) (MR : List qb) (MS : Int) : Nat → Int → Int → qN (List qb)
  | 0, _, _ => .fail
  | k + 1, MU, MV =>
    cond (decide (MU < MV))
      (
      lt ((wr .i64 (xa .u64 (wr .u64 (qh (MU + MV))) (1 : Int)))) fun (MT : Int) =>
      chk (inb MS MR.length) <|
      chk (inb MT MR.length) <|
      (xQ.m K (qb.mk ((rd MR MS).often_) ((rd MR MS).symbols_)) (qb.mk ((rd MR MT).often_) ((rd MR MT).symbols_))).bind fun MX =>
      cond (!(decide (MX < (0 : Int))))
        (
        lt ((qh (MT + (1 : Int)))) fun (MW : Int) =>
        qa.l5 K rc MR MS k MW MV)
        (
        qa.l5 K rc MR MS k MU MT))
      (
      qa.j6 K rc MR MS MU)
def qa.j13 (K : Nat) (rc : (List qb) → Int → Int → Int → qN (List qb)) (MU : Int) (MT : Int) (MR : Int) (MS : (List qb)) : qN (List qb) :=
  cond ((decide (MT < MR)) && (decide (MR < MU)))
    (
    (rc MS MT MR MU).bind fun MV =>
    .ok MV)
    (
    .ok MS)
def qa.j12 (K : Nat) (rc : (List qb) → Int → Int → Int → qN (List qb)) (MV : Int) (MW : Int) (MS : Int) (MR : Int) (MU : Int) (MT : (List qb)) : qN (List qb) :=
  cond ((decide (MV < MR)) && (decide (MR < MS)))
    (
    (rc MT MV MR MS).bind fun MX =>
    qa.j13 K rc MW MS MU MX)
    (
    qa.j13 K rc MW MS MU MT)
def qa.j11 (K : Nat) (rc : (List qb) → Int → Int → Int → qN (List qb)) (MT : List qb) (MV : Int) (MY : Int) (MW : Int) (MU : Int) (MZ : Int) (MR : Int) : qN (List qb) :=
  lt ((qh (MZ - MR))) fun (MS : Int) =>
  cond ((decide (MR < MY)) && (decide (MY < MS)))
    (
    (qw.m K MT MR MY MS).bind fun MX =>
    qa.j12 K rc MV MW MU MR MS MX)
    (
    qa.j12 K rc MV MW MU MR MS MT)
def qa.l10 (K : Nat) (rc : (List qb) → Int → Int → Int → qN (List qb)) (MR : List qb) (MW : Int) (M0 : Int) (MX : Int) (MU : Int) (MY : Int) (MV : Int) : Nat → Int → Int → qN (List qb)
  | 0, _, _ => .fail
  | k + 1, MT, M3 =>
    cond (decide (MT < M3))
      (
      lt ((wr .i64 (xa .u64 (wr .u64 (qh (MT + M3))) (1 : Int)))) fun (MS : Int) =>
      chk (inb (qh (MV - MS)) MR.length) <|
      chk (inb MS MR.length) <|
      (xQ.m K (qb.mk ((rd MR (qh (MV - MS))).often_) ((rd MR (qh (MV - MS))).symbols_)) (qb.mk ((rd MR MS).often_) ((rd MR MS).symbols_))).bind fun M4 =>
      cond (!(decide (M4 < (0 : Int))))
        (
        lt ((qh (MS + (1 : Int)))) fun (MZ : Int) =>
        qa.l10 K rc MR MW M0 MX MU MY MV k MZ M3)
        (
        qa.l10 K rc MR MW M0 MX MU MY MV k MT MS))
      (
      qa.j11 K rc MR MW M0 MX MU MY MT)
def qa.j9 (K : Nat) (rc : (List qb) → Int → Int → Int → qN (List qb)) (MS : List qb) (MV : Int) (MX : Int) (MW : Int) (MU : Int) (MT : Int) (MR : Int) (MZ : Int) : qN (List qb) :=
  lt ((qh (MT - (1 : Int)))) fun (MY : Int) =>
  qa.l10 K rc MS MV MX MW MU MT MY K MR MZ
def qa.j8 (K : Nat) (rc : (List qb) → Int → Int → Int → qN (List qb)) (MU : List qb) (MS : Int) (MV : Int) (MT : Int) : qN (List qb) :=
  lt ((wr .i64 (xa .u64 (wr .u64 (qh (MS + MT))) (1 : Int)))) fun (MR : Int) =>
  lt ((qh (MR + MV))) fun (MW : Int) =>
  cond (decide (MV > MR))
    (
    lt ((qh (MW - MT))) fun (MX : Int) =>
    qa.j9 K rc MU MS MV MT MR MW MX MR)
    (
    qa.j9 K rc MU MS MV MT MR MW MS MV)
def qa.j4 (K : Nat) (rc : (List qb) → Int → Int → Int → qN (List qb)) (MR : List qb) (MT : Int) (MS : Int) (MU : Int) : qN (List qb) :=
  cond ((qh (MU - MS)) == (1 : Int))
    (
    qa.l5 K rc MR MS K MT MS)
    (
    qa.j8 K rc MR MT MS MU)
def qa.b (K : Nat) (rc : (List qb) → Int → Int → Int → qN (List qb)) (MR : List qb) (MS : Int) (MU : Int) (MT : Int) : qN (List qb) :=
  cond ((qh (MU - MS)) == (1 : Int))
    (
    qa.l1 K rc MR MS K MU MT)
    (
    qa.j4 K rc MR MS MU MT)
def qa.r (K : Nat) : Nat → (List qb) → Int → Int → Int → qN (List qb)
  | 0 => fun _ _ _ _ => .fail
  | d + 1 => qa.b K (qa.r K d)
def qa.m (K : Nat) (MR : List qb) (MS : Int) (MU : Int) (MT : Int) : qN (List qb) := qa.r K K MR MS MU MT
def qd.j5 (K : Nat) (g3 : (List qb) → Int → qN (List qb)) (MX : Int) (MR : Int) (MU : (List qb)) (MV : Int) : qN (List qb) :=
  lt ((qh (MV + MR))) fun (MY : Int) =>
  cond (decide (MY < MX))
    (
    (qa.m K MU MV MY MX).bind fun MW =>
    lt ((qh (MR * (2 : Int)))) fun (MS : Int) =>
    g3 MW MS)
    (
    lt ((qh (MR * (2 : Int)))) fun (MT : Int) =>
    g3 MU MT)
def qd.l4 (K : Nat) (g3 : (List qb) → Int → qN (List qb)) (MV : Int) (MR : Int) : Nat → (List qb) → Int → Int → qN (List qb)
  | 0, _, _, _ => .fail
  | k + 1, MT, MU, MS =>
    cond (decide (MS ≤ MV))
      (
      (qa.m K MT MU (qh (MU + MR)) MS).bind fun MW =>
      lt ((qh (MS + (qh ((2 : Int) * MR))))) fun (MX : Int) =>
      qd.l4 K g3 MV MR k MW MS MX)
      (
      qd.j5 K (g3) MV MR MT MU)
def qd.l3 (K : Nat) (MT : Int) : Nat → (List qb) → Int → qN (List qb)
  | 0, _, _ => .fail
  | k + 1, MS, MR =>
    cond (decide (MR < MT))
      (
      lt ((qh ((2 : Int) * MR))) fun (MU : Int) =>
      qd.l4 K (qd.l3 K MT k) MT MR K MS (0 : Int) MU)
      (
      .ok MS)
def qd.j2 (K : Nat) (MT : Int) (MR : (List qb)) (MU : Int) : qN (List qb) :=
  (qc.m K MR MU MT).bind fun MS =>
  qd.l3 K MT K MS (20 : Int)
def qd.l1 (K : Nat) (MT : Int) : Nat → (List qb) → Int → Int → qN (List qb)
  | 0, _, _, _ => .fail
  | k + 1, MS, MU, MR =>
    cond (decide (MR ≤ MT))
      (
      (qc.m K MS MU MR).bind fun MV =>
      lt ((qh (MR + (20 : Int)))) fun (MW : Int) =>
      qd.l1 K MT k MV MR MW)
      (
      qd.j2 K MT MS MU)
def qd.m (K : Nat) (MR : List qb) (MS : Int) : qN (List qb) :=
  qd.l1 K MS K MR (0 : Int) (20 : Int)
def qT.m (K : Nat) (MS : List qb) : qN (List qb) :=
  (qd.m K MS (MS.length : Int)).bind fun MR =>
  .ok MR
def xO.m (K : Nat) (MS : Int) : qN Unit :=
  cond (decide (MS < (0 : Int)))
    (
    .pan (.iface QN (xi ([99, 97, 110, 110, 111, 116, 32, 98, 101, 32, 110, 101, 103, 97, 116, 105, 118, 101] : List UInt8))))
    (
    lt ((qh (MS - (qh ((0 : Int) - (0 : Int)))))) fun (MR : Int) =>
    cond (decide (MR > (0 : Int)))
      (
      chk (decide ((0 : Int) < MR) && room (Int.toNat MR) 8) <|
      .ok ())
      (
      .ok ()))
def qS.l3 (K : Nat) (MR : List (List Int)) : Nat → (List Int) → Int → qN (List Int)
  | 0, _, _ => .fail
  | k + 1, MS, MT =>
    cond (decide (MT < (MR.length : Int)))
      (
      chk (inb MT MR.length) <|
      chk (room (MS.length + (rd MR MT).length) 8) <|
      lt (MS ++ (rd MR MT)) fun (MU : (List Int)) =>
      qS.l3 K MR k MU (qh (MT + (1 : Int))))
      (
      .ok MS)
def qS.j2 (K : Nat) (MR : List (List Int)) (MS : Int) : qN (List Int) :=
  (xO.m K MS).bind fun _ =>
  qS.l3 K MR K ([] : List Int) (0 : Int)
def qS.l1 (K : Nat) (MR : List (List Int)) : Nat → Int → Int → qN (List Int)
  | 0, _, _ => .fail
  | k + 1, MS, MU =>
    cond (decide (MU < (MR.length : Int)))
      (
      chk (inb MU MR.length) <|
      lt ((qh (MS + ((rd MR MU).length : Int)))) fun (MT : Int) =>
      cond (decide (MT < (0 : Int)))
        (
        .pan (.iface QN (xi ([108, 101, 110, 32, 111, 117, 116, 32, 111, 102, 32, 114, 97, 110, 103, 101] : List UInt8))))
        (
        qS.l1 K MR k MT (qh (MU + (1 : Int)))))
      (
      qS.j2 K MR MS)
def qS.m (K : Nat) (MR : List (List Int)) : qN (List Int) :=
  qS.l1 K MR K (0 : Int) (0 : Int)
def xX.l1 (K : Nat) (MR : List qb) : Nat → (List qb) → Int → qN (List qb)
  | 0, _, _ => .fail
  | k + 1, MT, MS =>
    cond (decide ((qh (MS + (1 : Int))) < (MR.length : Int)))
      (
      chk (inb MS MR.length) <|
      chk (inb (qh (MS + (1 : Int))) MR.length) <|
      (qS.m K ([(rd MR MS).symbols_, (rd MR (qh (MS + (1 : Int)))).symbols_] : List (List Int))).bind fun MU =>
      chk (room (MT.length + ([(qb.mk (qh ((rd MR MS).often_ + (rd MR (qh (MS + (1 : Int)))).often_)) MU)] : List qb).length) 32) <|
      lt (MT ++ ([(qb.mk (qh ((rd MR MS).often_ + (rd MR (qh (MS + (1 : Int)))).often_)) MU)] : List qb)) fun (MV : (List qb)) =>
      lt ((qh (MS + (2 : Int)))) fun (MW : Int) =>
      xX.l1 K MR k MV MW)
      (
      .ok MT)
def xX.m (K : Nat) (MR : List qb) : qN (List qb) :=
  xX.l1 K MR K ([] : List qb) (0 : Int)
def zY.m (K : Nat) (MS : Int) : qN Unit :=
  cond (decide (MS < (0 : Int)))
    (
    .pan (.iface QN (xi ([99, 97, 110, 110, 111, 116, 32, 98, 101, 32, 110, 101, 103, 97, 116, 105, 118, 101] : List UInt8))))
    (
    lt ((qh (MS - (qh ((0 : Int) - (0 : Int)))))) fun (MR : Int) =>
    cond (decide (MR > (0 : Int)))
      (
      chk (decide ((0 : Int) < MR) && room (Int.toNat MR) 32) <|
      .ok ())
      (
      .ok ()))
def qs.l3 (K : Nat) (MR : List (List qb)) : Nat → (List qb) → Int → qN (List qb)
  | 0, _, _ => .fail
  | k + 1, MS, MT =>
    cond (decide (MT < (MR.length : Int)))
      (
      chk (inb MT MR.length) <|
      chk (room (MS.length + (rd MR MT).length) 32) <|
      lt (MS ++ (rd MR MT)) fun (MU : (List qb)) =>
      qs.l3 K MR k MU (qh (MT + (1 : Int))))
      (
      .ok MS)
def qs.j2 (K : Nat) (MR : List (List qb)) (MS : Int) : qN (List qb) :=
  (zY.m K MS).bind fun _ =>
  qs.l3 K MR K ([] : List qb) (0 : Int)
def qs.l1 (K : Nat) (MR : List (List qb)) : Nat → Int → Int → qN (List qb)
  | 0, _, _ => .fail
  | k + 1, MS, MU =>
    cond (decide (MU < (MR.length : Int)))
      (
      chk (inb MU MR.length) <|
      lt ((qh (MS + ((rd MR MU).length : Int)))) fun (MT : Int) =>
      cond (decide (MT < (0 : Int)))
        (
        .pan (.iface QN (xi ([108, 101, 110, 32, 111, 117, 116, 32, 111, 102, 32, 114, 97, 110, 103, 101] : List UInt8))))
        (
        qs.l1 K MR k MT (qh (MU + (1 : Int)))))
      (
      qs.j2 K MR MS)
def qs.m (K : Nat) (MR : List (List qb)) : qN (List qb) :=
  qs.l1 K MR K (0 : Int) (0 : Int)
def yY.m (K : Nat) (MR : List qb) (MS : List qb) : qN (List qb) :=
  (qs.m K ([MR, MS] : List (List qb))).bind fun MT =>
  (qT.m K MT).bind fun MU =>
  .ok MU
def qy.l8 (K : Nat) (g7 : (List Int) → Int → qN ((List Int) × Int)) (MS : (List qb)) (MT : Int) : Nat → (List Int) → Int → qN ((List Int) × Int)
  | 0, _, _ => .fail
  | k + 1, MR, MU =>
    cond (decide (MU < (((rd MS MT).symbols_).length : Int)))
      (
      chk (inb MU ((rd MS MT).symbols_).length) <|
      lt ((rd ((rd MS MT).symbols_) MU)) fun (MV : Int) =>
      chk (inb MV MR.length) <|
      lt (MR.set (Int.toNat MV) (qh ((rd MR MV) + (1 : Int)))) fun (MW : (List Int)) =>
      qy.l8 K g7 MS MT k MW (qh (MU + (1 : Int))))
      (
      g7 MR (qh (MT + (1 : Int))))
def qy.l7 (K : Nat) (MR : (List qb)) : Nat → (List Int) → Int → qN ((List Int) × Int)
  | 0, _, _ => .fail
  | k + 1, MS, MT =>
    cond (decide (MT < (MR.length : Int)))
      (
      chk (inb MT MR.length) <|
      qy.l8 K (qy.l7 K MR k) MR MT K MS (0 : Int))
      (
      .ok (MS, (0 : Int)))
def qy.j6 (K : Nat) (MS : (List Int)) (MT : (List qb)) (MR : (List qb)) : qN ((List Int) × Int) :=
  chk (subok (0 : Int) (qh ((qh ((2 : Int) * (MT.length : Int))) - (2 : Int))) MR.length) <|
  lt (sub MR (0 : Int) (qh ((qh ((2 : Int) * (MT.length : Int))) - (2 : Int)))) fun (MU : (List qb)) =>
  qy.l7 K MU K MS (0 : Int)
def qy.l5 (K : Nat) (MR : Int) (MS : (List Int)) (MU : (List qb)) : Nat → (List qb) → Int → qN ((List Int) × Int)
  | 0, _, _ => .fail
  | k + 1, MT, MV =>
    cond (decide (MV < (qh (MR - (1 : Int)))))
      (
      (xX.m K MT).bind fun MW =>
      (yY.m K MU MW).bind fun MX =>
      qy.l5 K MR MS MU k MX (qh (MV + (1 : Int))))
      (
      qy.j6 K MS MU MT)
def qy.j4 (K : Nat) (MT : Int) (MR : (List qb)) (MS : (List Int)) : qN ((List Int) × Int) :=
  cond (decide ((MR.length : Int) < (2 : Int)))
    (
    .ok (MS, (0 : Int)))
    (
    (qT.m K MR).bind fun MU =>
    qy.l5 K MT MS MU K MU (0 : Int))
def qy.j3 (K : Nat) (MT : List Int) (MS : Int) (MR : (List qb)) : qN ((List Int) × Int) :=
  chk (decide (0 ≤ MS)) <|
  cond (decide ((MR.length : Int) > (z7 .i64 (1 : Int) MS)))
    (
    .ok (([] : List Int), (1 : Int)))
    (
    chk (decide (0 ≤ (MT.length : Int)) && room (Int.toNat (MT.length : Int)) 8) <|
    lt (List.replicate (Int.toNat (MT.length : Int)) (0 : Int)) fun (MU : (List Int)) =>
    cond ((MR.length : Int) == (1 : Int))
      (
      chk (inb (0 : Int) MR.length) <|
      chk (inb (0 : Int) ((rd MR (0 : Int)).symbols_).length) <|
      chk (inb (rd ((rd MR (0 : Int)).symbols_) (0 : Int)) MU.length) <|
      lt (MU.set (Int.toNat (rd ((rd MR (0 : Int)).symbols_) (0 : Int))) (1 : Int)) fun (MV : (List Int)) =>
      qy.j4 K MS MR MV)
      (
      qy.j4 K MS MR MU))
def qy.l2 (K : Nat) (MR : List Int) (MT : Int) : Nat → (List qb) → Int → qN ((List Int) × Int)
  | 0, _, _ => .fail
  | k + 1, MS, MU =>
    cond (decide (MU < (MR.length : Int)))
      (
      chk (inb MU MR.length) <|
      lt ((rd MR MU)) fun (MV : Int) =>
      cond (decide (MV > (0 : Int)))
        (
        chk (room (MS.length + ([(qb.mk MV ([MU] : List Int))] : List qb).length) 32) <|
        lt (MS ++ ([(qb.mk MV ([MU] : List Int))] : List qb)) fun (MW : (List qb)) =>
        qy.l2 K MR MT k MW (qh (MU + (1 : Int))))
        (
        qy.l2 K MR MT k MS (qh (MU + (1 : Int)))))
      (
      qy.j3 K MR MT MS)
def qy.j1 (K : Nat) (MR : List Int) (MS : Int) (MT : Bool) : qN ((List Int) × Int) :=
  cond MT
    (
    .ok (([] : List Int), (1 : Int)))
    (
    qy.l2 K MR MS K ([] : List qb) (0 : Int))
def qy.m (K : Nat) (MR : List Int) (MS : Int) : qN ((List Int) × Int) :=
  cond (((decide (MS < (1 : Int))) || (decide (MS > (15 : Int)))) || (decide ((MR.length : Int) > (320 : Int))))
    (
    qy.j1 K MR MS true)
    (
    (xB.m K MR).bind fun MT =>
    qy.j1 K MR MS MT)
def qV.j4 (K : Nat)  (MR : (List Int)) : qN ((List Int) × (List Int)) :=
  (qy.m K MR (15 : Int)).bind fun (MS, MT) =>
  .ok (MS, MR)
def qV.l3 (K : Nat)  : Nat → (List Int) → Int → Int → qN ((List Int) × (List Int))
  | 0, _, _, _ => .fail
  | k + 1, MR, MT, MS =>
    cond (decide (MT < (2 : Int)))
      (
      chk (inb MS MR.length) <|
      cond ((rd MR MS) == (0 : Int))
        (
        lt (MR.set (Int.toNat MS) (qh ((rd MR MS) + (1 : Int)))) fun (MV : (List Int)) =>
        lt ((qh (MT + (1 : Int)))) fun (MU : Int) =>
        lt ((qh (MS + (1 : Int)))) fun (MW : Int) =>
        qV.l3 K k MV MU MW)
        (
        lt ((qh (MS + (1 : Int)))) fun (MX : Int) =>
        qV.l3 K k MR MT MX))
      (
      qV.j4 K MR)
def qV.j2 (K : Nat) (MR : List Int) (MS : Int) : qN ((List Int) × (List Int)) :=
  qV.l3 K K MR MS (0 : Int)
def qV.l1 (K : Nat) (MR : List Int) : Nat → Int → Int → qN ((List Int) × (List Int))
  | 0, _, _ => .fail
  | k + 1, MU, MS =>
    cond (decide (MS < (MR.length : Int)))
      (
      chk (inb MS MR.length) <|
      lt ((rd MR MS)) fun (MT : Int) =>
      lt ((qh (MU + (if (1 : Int) < MT then (1 : Int) else MT)))) fun (MV : Int) =>
      qV.l1 K MR k MV (qh (MS + (1 : Int))))
      (
      qV.j2 K MR MU)
def qV.m (K : Nat) (MR : List Int) : qN ((List Int) × (List Int)) :=
  qV.l1 K MR K (0 : Int) (0 : Int)
def qP.j4 (K : Nat) (g1 : (List qi) → Int → qN (List qi)) (MT : List Int) (MR : (List qi)) (MU : Int) (MS : Int) : qN (List qi) :=
  chk (inb MU MT.length) <|
  lt ((((rd MT MU) == (0 : Int)) && (decide (MS ≥ (11 : Int))))) fun (M7 : Bool) =>
  cond M7
    (
    lt ((if (138 : Int) < MS then (138 : Int) else MS)) fun (MV : Int) =>
    chk (room (MR.length + ([(qi.mk (18 : Int) (qh (MV - (11 : Int))) (7 : Int))] : List qi).length) 24) <|
    lt (MR ++ ([(qi.mk (18 : Int) (qh (MV - (11 : Int))) (7 : Int))] : List qi)) fun (MX : (List qi)) =>
    lt ((qh (MU + MV))) fun (M3 : Int) =>
    g1 MX M3)
    (
    lt ((((rd MT MU) == (0 : Int)) && (decide (MS ≥ (3 : Int))))) fun (M8 : Bool) =>
    cond M8
      (
      chk (room (MR.length + ([(qi.mk (17 : Int) (qh (MS - (3 : Int))) (3 : Int))] : List qi).length) 24) <|
      lt (MR ++ ([(qi.mk (17 : Int) (qh (MS - (3 : Int))) (3 : Int))] : List qi)) fun (MY : (List qi)) =>
      lt ((qh (MU + MS))) fun (M4 : Int) =>
      g1 MY M4)
      (
      lt ((decide (MS ≥ (4 : Int)))) fun (M9 : Bool) =>
      cond M9
        (
        lt ((if (7 : Int) < MS then (7 : Int) else MS)) fun (MW : Int) =>
        chk (room (MR.length + ([(qi.mk (rd MT MU) (0 : Int) (0 : Int)), (qi.mk (16 : Int) (qh (MW - (4 : Int))) (2 : Int))] : List qi).length) 24) <|
        lt (MR ++ ([(qi.mk (rd MT MU) (0 : Int) (0 : Int)), (qi.mk (16 : Int) (qh (MW - (4 : Int))) (2 : Int))] : List qi)) fun (MZ : (List qi)) =>
        lt ((qh (MU + MW))) fun (M5 : Int) =>
        g1 MZ M5)
        (
        chk (room (MR.length + ([(qi.mk (rd MT MU) (0 : Int) (0 : Int))] : List qi).length) 24) <|
        lt (MR ++ ([(qi.mk (rd MT MU) (0 : Int) (0 : Int))] : List qi)) fun (M0 : (List qi)) =>
        lt ((qh (MU + (1 : Int)))) fun (M6 : Int) =>
        g1 M0 M6)))
def qP.j3 (K : Nat) (g1 : (List qi) → Int → qN (List qi)) (g2 : Int → qN (List qi)) (MT : List Int) (MS : (List qi)) (MV : Int) (MR : Int) (MW : Bool) : qN (List qi) :=
  cond MW
    (
    lt ((qh (MR + (1 : Int)))) fun (MU : Int) =>
    g2 MU)
    (
    qP.j4 K (g1) MT MS MV MR)
def qP.l2 (K : Nat) (g1 : (List qi) → Int → qN (List qi)) (MR : List Int) (MT : (List qi)) (MS : Int) : Nat → Int → qN (List qi)
  | 0, _ => .fail
  | k + 1, MU =>
    cond (decide ((qh (MS + MU)) < (MR.length : Int)))
      (
      chk (inb (qh (MS + MU)) MR.length) <|
      chk (inb MS MR.length) <|
      qP.j3 K (g1) (qP.l2 K g1 MR MT MS k) MR MT MS MU ((rd MR (qh (MS + MU))) == (rd MR MS)))
      (
      qP.j3 K (g1) (qP.l2 K g1 MR MT MS k) MR MT MS MU false)
def qP.l1 (K : Nat) (MR : List Int) : Nat → (List qi) → Int → qN (List qi)
  | 0, _, _ => .fail
  | k + 1, MS, MT =>
    cond (decide (MT < (MR.length : Int)))
      (
      qP.l2 K (qP.l1 K MR k) MR MS MT K (1 : Int))
      (
      .ok MS)
def qP.m (K : Nat) (MR : List Int) : qN (List qi) :=
  qP.l1 K MR K ([] : List qi) (0 : Int)
def zL.l1 (K : Nat) (MT : qp) (MS : qv) (MX : Int) : Nat → Int → (List Int) → Int → qN (Int × (List Int))
  | 0, _, _, _ => .fail
  | k + 1, MU, MR, MV =>
    cond (decide (MV ≥ (0 : Int)))
      (
      chk (inb MX MS.codes_.length) <|
      chk (decide (0 ≤ MV)) <|
      (qn.m K (qp.mk (qR.mk (qr.mk MU) MR) MT.literals_ MT.distances_) (wr .u32 (xE .i64 (xa .i64 (rd MS.codes_ MX) MV) (1 : Int))) (1 : Int)).bind fun (M0, MY, MW) =>
      lt ((qh (MV - (1 : Int)))) fun (MZ : Int) =>
      zL.l1 K MT MS MX k MY MW MZ)
      (
      .ok (MU, MR))
def zL.m (K : Nat) (MS : qp) (MR : qv) (MT : Int) : qN (Int × (List Int)) :=
  chk (inb MT MR.lengths_.length) <|
  lt ((qh ((rd MR.lengths_ MT) - (1 : Int)))) fun (MU : Int) =>
  zL.l1 K MS MR MT K MS.Writer_.place_.at_ MS.Writer_.bytes_ MU
def qg.j12 (K : Nat) (MZ : List qM) (MX : (List Int)) (MR : (List Int)) (MY : (List Int)) (MS : (List Int)) (MV : Int) (MT : (List Int)) : qN ((List UInt8) × Int) :=
  (zi.m K (qp.mk (qR.mk (qr.mk MV) MT) (qv.mk MX MR) (qv.mk MY MS)) MZ).bind fun (MW, MU) =>
  (zX.m K (qp.mk (qR.mk (qr.mk MW) MU) (qv.mk MX MR) (qv.mk MY MS))).bind fun M0 =>
  .ok (M0, (0 : Int))
def qg.l11 (K : Nat) (M4 : List qM) (MY : (List Int)) (MR : (List Int)) (MZ : (List Int)) (MS : (List Int)) (MW : (List qi)) (M7 : (List Int)) (MU : (List Int)) : Nat → Int → (List Int) → Int → qN ((List UInt8) × Int)
  | 0, _, _, _ => .fail
  | k + 1, MX, MT, MV =>
    cond (decide (MV < (MW.length : Int)))
      (
      chk (inb MV MW.length) <|
      (zL.m K (qp.mk (qR.mk (qr.mk MX) MT) (qv.mk MY MR) (qv.mk MZ MS)) (qv.mk M7 MU) ((rd MW MV).symbol_)).bind fun (M5, M0) =>
      (qn.m K (qp.mk (qR.mk (qr.mk M5) M0) (qv.mk MY MR) (qv.mk MZ MS)) (wr .u32 (rd MW MV).more_) ((rd MW MV).bits_)).bind fun (M8, M6, M3) =>
      qg.l11 K M4 MY MR MZ MS MW M7 MU k M6 M3 (qh (MV + (1 : Int))))
      (
      qg.j12 K M4 MY MR MZ MS MX MT)
def qg.j10 (K : Nat) (MW : List qM) (MX : (List Int)) (MS : (List Int)) (MY : (List Int)) (MT : (List Int)) (MZ : (List qi)) (M0 : (List Int)) (MU : (List Int)) (MV : Int) (MR : (List Int)) : qN ((List UInt8) × Int) :=
  qg.l11 K MW MX MS MY MT MZ M0 MU K MV MR (0 : Int)
def qg.l9 (K : Nat) (MZ : List qM) (M0 : (List Int)) (MR : (List Int)) (M3 : (List Int)) (MS : (List Int)) (M6 : (List qi)) (MX : (List Int)) (MU : (List Int)) : Nat → Int → (List Int) → Int → qN ((List UInt8) × Int)
  | 0, _, _, _ => .fail
  | k + 1, MV, MT, MW =>
    cond (decide (MW < (19 : Int)))
      (
      chk (inb MW 19) <|
      lt ((rd tab_deflate_order MW)) fun (M5 : Int) =>
      chk (inb M5 MX.length) <|
      (qn.m K (qp.mk (qR.mk (qr.mk MV) MT) (qv.mk M0 MR) (qv.mk M3 MS)) (wr .u32 (rd MX M5)) (3 : Int)).bind fun (M7, M4, MY) =>
      qg.l9 K MZ M0 MR M3 MS M6 MX MU k M4 MY (qh (MW + (1 : Int))))
      (
      qg.j10 K MZ M0 MR M3 MS M6 MX MU MV MT)
def qg.j8 (K : Nat) (M8 : List qM) (MT : (List Int)) (MR : (List Int)) (MU : (List Int)) (MS : (List Int)) (M9 : (List qi)) (M0 : (List Int)) : qN ((List UInt8) × Int) :=
  (qy.m K M0 (7 : Int)).bind fun (M7, Na) =>
  (ye.m K M7).bind fun MZ =>
  (qn.m K (qp.mk (qR.mk (qr.mk (0 : Int)) ([] : List Int)) (qv.mk MT MR) (qv.mk MU MS)) (5 : Int) (3 : Int)).bind fun (Nb, M3, MV) =>
  (qn.m K (qp.mk (qR.mk (qr.mk M3) MV) (qv.mk MT MR) (qv.mk MU MS)) (29 : Int) (5 : Int)).bind fun (Nc, M4, MW) =>
  (qn.m K (qp.mk (qR.mk (qr.mk M4) MW) (qv.mk MT MR) (qv.mk MU MS)) (29 : Int) (5 : Int)).bind fun (Nd, M5, MX) =>
  (qn.m K (qp.mk (qR.mk (qr.mk M5) MX) (qv.mk MT MR) (qv.mk MU MS)) (15 : Int) (4 : Int)).bind fun (Nf, M6, MY) =>
  qg.l9 K M8 MT MR MU MS M9 M7 MZ K M6 MY (0 : Int)
def qg.j7 (K : Nat) (MU : List qM) (MW : (List Int)) (MS : (List Int)) (MX : (List Int)) (MT : (List Int)) (MY : (List qi)) (MR : (List Int)) (MZ : Int) : qN ((List UInt8) × Int) :=
  cond (decide (MZ < (2 : Int)))
    (
    chk (inb (0 : Int) MR.length) <|
    chk (inb (1 : Int) MR.length) <|
    lt (MR.set (Int.toNat (0 : Int)) (if (1 : Int) > (rd MR (0 : Int)) then (1 : Int) else (rd MR (0 : Int)))) fun (MV : (List Int)) =>
    chk (inb (1 : Int) MV.length) <|
    lt (MV.set (Int.toNat (1 : Int)) (if (1 : Int) > (rd MR (1 : Int)) then (1 : Int) else (rd MR (1 : Int)))) fun (M0 : (List Int)) =>
    qg.j8 K MU MW MS MX MT MY M0)
    (
    qg.j8 K MU MW MS MX MT MY MR)
def qg.l6 (K : Nat) (MW : List qM) (MY : (List Int)) (MS : (List Int)) (MZ : (List Int)) (MT : (List Int)) (M0 : (List qi)) (MR : (List Int)) : Nat → Int → Int → qN ((List UInt8) × Int)
  | 0, _, _ => .fail
  | k + 1, MX, MU =>
    cond (decide (MU < (MR.length : Int)))
      (
      chk (inb MU MR.length) <|
      lt ((rd MR MU)) fun (MV : Int) =>
      lt ((qh (MX + (if (1 : Int) < MV then (1 : Int) else MV)))) fun (M3 : Int) =>
      qg.l6 K MW MY MS MZ MT M0 MR k M3 (qh (MU + (1 : Int))))
      (
      qg.j7 K MW MY MS MZ MT M0 MR MX)
def qg.j5 (K : Nat) (MU : List qM) (MV : (List Int)) (MR : (List Int)) (MW : (List Int)) (MS : (List Int)) (MX : (List qi)) (MT : (List Int)) : qN ((List UInt8) × Int) :=
  qg.l6 K MU MV MR MW MS MX MT K (0 : Int) (0 : Int)
def qg.l4 (K : Nat) (MW : List qM) (MX : (List Int)) (MT : (List Int)) (MY : (List Int)) (MU : (List Int)) (MS : (List qi)) : Nat → (List Int) → Int → qN ((List UInt8) × Int)
  | 0, _, _ => .fail
  | k + 1, MR, MV =>
    cond (decide (MV < (MS.length : Int)))
      (
      chk (inb MV MS.length) <|
      chk (inb (rd MS MV).symbol_ MR.length) <|
      lt (MR.set (Int.toNat (rd MS MV).symbol_) (qh ((rd MR (rd MS MV).symbol_) + (1 : Int)))) fun (MZ : (List Int)) =>
      qg.l4 K MW MX MT MY MU MS k MZ (qh (MV + (1 : Int))))
      (
      qg.j5 K MW MX MT MY MU MS MR)
def qg.j3 (K : Nat) (MY : List qM) (MS : (List Int)) (MR : (List Int)) : qN ((List UInt8) × Int) :=
  (qV.m K MS).bind fun (MT, M3) =>
  (ye.m K MT).bind fun MV =>
  (qV.m K MR).bind fun (MU, M4) =>
  (ye.m K MU).bind fun MW =>
  chk (room (([] : List Int).length + MT.length) 8) <|
  lt (([] : List Int) ++ MT) fun (MX : (List Int)) =>
  chk (room (MX.length + MU.length) 8) <|
  lt (MX ++ MU) fun (MZ : (List Int)) =>
  (qP.m K MZ).bind fun M5 =>
  chk (decide (0 ≤ (19 : Int)) && room (Int.toNat (19 : Int)) 8) <|
  lt (List.replicate (Int.toNat (19 : Int)) (0 : Int)) fun (M0 : (List Int)) =>
  qg.l4 K MY MT MV MU MW M5 K M0 (0 : Int)
def qg.l2 (K : Nat) (MT : List qM) : Nat → (List Int) → (List Int) → Int → qN ((List UInt8) × Int)
  | 0, _, _, _ => .fail
  | k + 1, MR, MS, MU =>
    cond (decide (MU < (MT.length : Int)))
      (
      chk (inb MU MT.length) <|
      cond ((rd MT MU).Dist_ == (0 : Int))
        (
        chk (inb (rd MT MU).Lit_ MR.length) <|
        lt (MR.set (Int.toNat (rd MT MU).Lit_) (qh ((rd MR (rd MT MU).Lit_) + (1 : Int)))) fun (MX : (List Int)) =>
        qg.l2 K MT k MX MS (qh (MU + (1 : Int))))
        (
        (yP.m K ((rd MT MU).Len_)).bind fun (MV, M0, M4) =>
        chk (inb MV MR.length) <|
        lt (MR.set (Int.toNat MV) (qh ((rd MR MV) + (1 : Int)))) fun (MY : (List Int)) =>
        (yz.m K ((rd MT MU).Dist_)).bind fun (MW, M3, M5) =>
        chk (inb MW MS.length) <|
        lt (MS.set (Int.toNat MW) (qh ((rd MS MW) + (1 : Int)))) fun (MZ : (List Int)) =>
        qg.l2 K MT k MY MZ (qh (MU + (1 : Int)))))
      (
      qg.j3 K MT MR MS)
def qg.j1 (K : Nat) (MT : List qM) (MR : (List Int)) (MS : (List Int)) : qN ((List UInt8) × Int) :=
  chk (inb (256 : Int) MR.length) <|
  lt (MR.set (Int.toNat (256 : Int)) (qh ((rd MR (256 : Int)) + (1 : Int)))) fun (MU : (List Int)) =>
  qg.l2 K MT K MU MS (0 : Int)
def qg.m (K : Nat) (MR : List qM) : qN ((List UInt8) × Int) :=
  (jn.m K MR).bind fun MU =>
  cond (!MU)
    (
    .ok (([] : List UInt8), (1 : Int)))
    (
    chk (decide (0 ≤ (286 : Int)) && room (Int.toNat (286 : Int)) 8) <|
    lt (List.replicate (Int.toNat (286 : Int)) (0 : Int)) fun (MS : (List Int)) =>
    chk (decide (0 ≤ (30 : Int)) && room (Int.toNat (30 : Int)) 8) <|
    lt (List.replicate (Int.toNat (30 : Int)) (0 : Int)) fun (MT : (List Int)) =>
    qg.j1 K MR MS MT)
def z2.j1 (K : Nat) (MT : (List qM)) (MR : List UInt8) : qN (List UInt8) :=
  (qg.m K MT).bind fun (MS, MU) =>
  cond ((MU == (0 : Int)) && (decide ((MS.length : Int) < (MR.length : Int))))
    (
    .ok MS)
    (
    .ok MR)
def z2.m (K : Nat) (MS : List UInt8) : qN (List UInt8) :=
  (zV.m K MS).bind fun MR =>
  (zT.m K MS).bind fun MT =>
  (jw.m K MR).bind fun (MU, MV) =>
  cond ((MV == (0 : Int)) && (decide ((MU.length : Int) < (MT.length : Int))))
    (
    z2.j1 K MR MU)
    (
    z2.j1 K MR MT)
def QE.m (K : Nat) (MS : List UInt8) : qN (List UInt8) :=
  (jZ.m K MS).bind fun MV =>
  (xl.m K (wr .u64 MV) (4 : Int)).bind fun (MT, MW) =>
  (z2.m K MS).bind fun MR =>
  chk (Ky (([120, 156] : List UInt8).length + MR.length)) <|
  chk (Ky ((([120, 156] : List UInt8) ++ MR).length + MT.length)) <|
  lt (((([120, 156] : List UInt8) ++ MR) ++ MT)) fun (MU : List UInt8) =>
  .ok MU
def xd.j1 (K : Nat)  (MR : Bool) : qN Bool :=
  .ok MR
def xd.m (K : Nat) (MS : List UInt8) (MR : List UInt8) : qN Bool :=
  cond ((decide ((MS.length : Int) > (20000 : Int))) || (decide ((MR.length : Int) > (20000 : Int))))
    (
    (yo.m K).bind fun MU =>
    .ok MU)
    (
    (QE.m K MS).bind fun MT =>
    chk (Ky (MT.length + MR.length)) <|
    (jm.m K (MT ++ MR) (MS.length : Int)).bind fun (MV, MW, MX) =>
    cond (((MV == MS) && (MW == (MT.length : Int))) && (MX == (0 : Int)))
      (
      (yo.m K).bind fun MY =>
      xd.j1 K MY)
      (
      xd.j1 K false))
end Go.Mo
