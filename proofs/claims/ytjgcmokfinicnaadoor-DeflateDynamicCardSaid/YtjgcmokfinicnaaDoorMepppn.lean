/- Models of the Go functions that this statement reaches, printed by a program of mine: nothing is proved but lengths of tables. -/
import Derived.Test.YtjgcmokfinicnaaDoorOwn
set_option linter.unusedVariables false
set_option linter.unusedSimpArgs false
namespace Go.Mo
open Go Go.Sl
structure qr where
  Lit_ : Int
  Len_ : Int
  Dist_ : Int
  deriving Inhabited
structure q8 where
  at_ : Int
  deriving Inhabited
structure qW where
  place_ : q8
  bytes_ : (List Int)
  deriving Inhabited
structure qx where
  lengths_ : (List Int)
  codes_ : (List Int)
  deriving Inhabited
structure qt where
  Writer_ : qW
  literals_ : qx
  distances_ : qx
  deriving Inhabited
structure xT where
  symbol_ : Int
  bits_ : Int
  more_ : Int
  deriving Inhabited
structure qb where
  often_ : Int
  symbols_ : (List Int)
  deriving Inhabited
structure ql where
  symbol_ : Int
  more_ : Int
  bits_ : Int
  deriving Inhabited
structure xn where
  text_ : List UInt8
  seen_ : (List ((List Int) × (List Int)))
  deriving Inhabited
structure YV where
  B_ : (List Int)
  deriving Inhabited
structure qm where
  S_ : List UInt8
  At_ : Int
  deriving Inhabited
structure qu where
  r_ : qm
  out_ : (List Int)
  limit_ : Int
  deriving Inhabited
structure zx where
  l_ : (List Int)
  codes_ : (List Int)
  deriving Inhabited
structure XI where
  place_ : q8
  text_ : List UInt8
  deriving Inhabited
structure VT where
  Reader_ : XI
  out_ : (List Int)
  limit_ : Int
  deriving Inhabited
structure uw where
  counts_ : (List Int)
  symbols_ : (List Int)
  deriving Inhabited
structure QB where
  from_ : Int
  bits_ : Int
  deriving Inhabited
abbrev Qn : TypeId := 9
abbrev vQ : TypeId := 94
def tab_deflate_order : List Int := [16, 17, 18, 0, 8, 7, 9, 6, 10, 5, 11, 4, 12, 3, 13, 2, 14, 1, 15]
theorem uU : tab_deflate_order.length = 19 := by decide
def tab_inflate_lengths : List QB := [⟨3, 0⟩, ⟨4, 0⟩, ⟨5, 0⟩, ⟨6, 0⟩, ⟨7, 0⟩, ⟨8, 0⟩, ⟨9, 0⟩, ⟨10, 0⟩, ⟨11, 1⟩, ⟨13, 1⟩, ⟨15, 1⟩, ⟨17, 1⟩, ⟨19, 2⟩, ⟨23, 2⟩, ⟨27, 2⟩, ⟨31, 2⟩, ⟨35, 3⟩, ⟨43, 3⟩, ⟨51, 3⟩, ⟨59, 3⟩, ⟨67, 4⟩, ⟨83, 4⟩, ⟨99, 4⟩, ⟨115, 4⟩, ⟨131, 5⟩, ⟨163, 5⟩, ⟨195, 5⟩, ⟨227, 5⟩, ⟨258, 0⟩]
def tab_inflate_distances : List QB := [⟨1, 0⟩, ⟨2, 0⟩, ⟨3, 0⟩, ⟨4, 0⟩, ⟨5, 1⟩, ⟨7, 1⟩, ⟨9, 2⟩, ⟨13, 2⟩, ⟨17, 3⟩, ⟨25, 3⟩, ⟨33, 4⟩, ⟨49, 4⟩, ⟨65, 5⟩, ⟨97, 5⟩, ⟨129, 6⟩, ⟨193, 6⟩, ⟨257, 7⟩, ⟨385, 7⟩, ⟨513, 8⟩, ⟨769, 8⟩, ⟨1025, 9⟩, ⟨1537, 9⟩, ⟨2049, 10⟩, ⟨3073, 10⟩, ⟨4097, 11⟩, ⟨6145, 11⟩, ⟨8193, 12⟩, ⟨12289, 12⟩, ⟨16385, 13⟩, ⟨24577, 13⟩]
def Q7 : List Int := [16, 17, 18, 0, 8, 7, 9, 6, 10, 5, 11, 4, 12, 3, 13, 2, 14, 1, 15]
def vn.m (K : Nat) (Gu : qr) : qR Bool :=
  cond (Gu.Dist_ == (0 : Int))
    (
    lt ((Gu.Len_ == (0 : Int))) fun (Gv : Bool) =>
    .ok Gv)
    (
    lt ((((((decide (Gu.Dist_ > (0 : Int))) && (decide (Gu.Dist_ ≤ (32768 : Int)))) && (decide (Gu.Len_ ≥ (3 : Int)))) && (decide (Gu.Len_ ≤ (258 : Int)))) && (Gu.Lit_ == (0 : Int)))) fun (Gw : Bool) =>
    .ok Gw)
def ya.l1 (K : Nat) (Gu : Int) : Nat → Int → Int → qR Int
  | 0, _, _ => .fail
  | k + 1, Gv, Gw =>
    chk (decide (0 ≤ Gu)) <|
    cond (decide (Gv ≥ (xz .i64 (2 : Int) Gu)))
      (
      lt ((xC .i64 Gv (1 : Int))) fun (Gx : Int) =>
      lt ((qh (Gw + (1 : Int)))) fun (Gy : Int) =>
      ya.l1 K Gu k Gx Gy)
      (
      .ok Gw)
def ya.m (K : Nat) (Gv : Int) (Gu : Int) : qR Int :=
  ya.l1 K Gu K Gv (0 : Int)
def yK.m (K : Nat) (Gu : Int) : qR Int :=
  lt ((Gu == (258 : Int))) fun (Gv : Bool) =>
  cond Gv
    (
    .ok (8 : Int))
    (
    lt ((decide (Gu ≥ (115 : Int)))) fun (Gw : Bool) =>
    cond Gw
      (
      (ya.m K (qh (Gu - (3 : Int))) (2 : Int)).bind fun Gx =>
      lt ((qh ((8 : Int) + Gx))) fun (Gy : Int) =>
      .ok Gy)
      (
      (ya.m K (qh (Gu - (3 : Int))) (2 : Int)).bind fun Gz =>
      lt ((qh ((7 : Int) + Gz))) fun (GA : Int) =>
      .ok GA))
def x4.l1 (K : Nat) (Gu : List qr) : Nat → Int → Int → qR (Int × Int)
  | 0, _, _ => .fail
  | k + 1, Gw, Gv =>
    cond (decide (Gv < (Gu.length : Int)))
      (
      chk (inb Gv Gu.length) <|
      (vn.m K (qr.mk ((rd Gu Gv).Lit_) ((rd Gu Gv).Len_) ((rd Gu Gv).Dist_))).bind fun GA =>
      lt ((!GA)) fun (GB : Bool) =>
      cond GB
        (
        .ok ((0 : Int), (1 : Int)))
        (
        lt ((((rd Gu Gv).Dist_ == (0 : Int)) && (decide ((rd Gu Gv).Lit_ < (144 : Int))))) fun (GC : Bool) =>
        cond GC
          (
          lt ((qh (Gw + (8 : Int)))) fun (Gx : Int) =>
          x4.l1 K Gu k Gx (qh (Gv + (1 : Int))))
          (
          lt (((rd Gu Gv).Dist_ == (0 : Int))) fun (GD : Bool) =>
          cond GD
            (
            lt ((qh (Gw + (9 : Int)))) fun (Gy : Int) =>
            x4.l1 K Gu k Gy (qh (Gv + (1 : Int))))
            (
            (yK.m K ((rd Gu Gv).Len_)).bind fun GE =>
            (ya.m K (qh ((rd Gu Gv).Dist_ - (1 : Int))) (1 : Int)).bind fun GF =>
            lt ((qh (Gw + (qh ((qh (GE + (5 : Int))) + GF))))) fun (Gz : Int) =>
            x4.l1 K Gu k Gz (qh (Gv + (1 : Int)))))))
      (
      .ok (Gw, (0 : Int)))
def x4.m (K : Nat) (Gu : List qr) : qR (Int × Int) :=
  x4.l1 K Gu K (7 : Int) (0 : Int)
def jd.m (K : Nat) (Gu : List qr) : qR Bool :=
  (x4.m K Gu).bind fun (Gx, Gv) =>
  lt ((Gv == (0 : Int))) fun (Gw : Bool) =>
  .ok Gw
def xi.j2 (K : Nat)  (Gu : (List Int)) : qR ((List Int) × Bool) :=
  lt (Gu.set (Int.toNat (0 : Int)) (0 : Int)) fun (Gv : (List Int)) =>
  .ok (Gv, true)
def xi.l1 (K : Nat) (Gu : List Int) : Nat → (List Int) → Int → qR ((List Int) × Bool)
  | 0, _, _ => .fail
  | k + 1, Gw, Gx =>
    cond (decide (Gx < (Gu.length : Int)))
      (
      chk (inb Gx Gu.length) <|
      lt ((rd Gu Gx)) fun (Gv : Int) =>
      cond ((decide (Gv < (0 : Int))) || (decide (Gv > (15 : Int))))
        (
        .ok (Gw, false))
        (
        chk (inb Gv 16) <|
        lt (Gw.set (Int.toNat Gv) (qh ((rd Gw Gv) + (1 : Int)))) fun (Gy : (List Int)) =>
        xi.l1 K Gu k Gy (qh (Gx + (1 : Int)))))
      (
      xi.j2 K Gw)
def xi.m (K : Nat) (Gu : List Int) : qR ((List Int) × Bool) :=
  cond (decide ((Gu.length : Int) > (320 : Int)))
    (
    .ok ((List.replicate 16 (0 : Int)), false))
    (
    xi.l1 K Gu K (List.replicate 16 (0 : Int)) (0 : Int))
def xx.j2 (K : Nat) (Gv : (List Int)) (Gu : Int) : qR Int :=
  cond (((Gu == (0 : Int)) || (Gu == (32768 : Int))) || (Gv == ([0, (1 : Int), 0, 0, 0, 0, 0, 0, 0, 0, 0, 0, 0, 0, 0, 0] : List Int)))
    (
    .ok (0 : Int))
    (
    .ok (3 : Int))
def xx.l1 (K : Nat) (Gw : (List Int)) : Nat → Int → Int → qR Int
  | 0, _, _ => .fail
  | k + 1, Gv, Gu =>
    cond (decide (Gu < (16 : Int)))
      (
      chk (inb Gu 16) <|
      lt ((rd Gw Gu)) fun (Gy : Int) =>
      chk (decide (0 ≤ Gu)) <|
      lt ((qh (Gv + (qh (Gy * (xC .i64 (32768 : Int) Gu)))))) fun (Gx : Int) =>
      xx.l1 K Gw k Gx (qh (Gu + (1 : Int))))
      (
      xx.j2 K Gw Gv)
def xx.m (K : Nat) (Gu : List Int) : qR Int :=
  (xi.m K Gu).bind fun (Gv, Gw) =>
  cond (!Gw)
    (
    .ok (1 : Int))
    (
    xx.l1 K Gv K (0 : Int) (0 : Int))
def zP.j2 (K : Nat)  (Gu : (List Int)) : qR (List Int) :=
  .ok Gu
def zP.l1 (K : Nat) (Gy : List Int) : Nat → (List Int) → Int → Int → qR (List Int)
  | 0, _, _, _ => .fail
  | k + 1, Gv, Gx, Gu =>
    cond (decide (Gu ≤ (15 : Int)))
      (
      chk (inb (qh (Gu - (1 : Int))) 16) <|
      lt ((xz .i64 (qh (Gx + (rd Gy (qh (Gu - (1 : Int)))))) (1 : Int))) fun (Gw : Int) =>
      chk (inb Gu 16) <|
      lt (Gv.set (Int.toNat Gu) Gw) fun (Gz : (List Int)) =>
      lt ((qh (Gu + (1 : Int)))) fun (GA : Int) =>
      zP.l1 K Gy k Gz Gw GA)
      (
      zP.j2 K Gv)
def zP.m (K : Nat) (Gu : List Int) : qR (List Int) :=
  zP.l1 K Gu K (List.replicate 16 (0 : Int)) (0 : Int) (1 : Int)
def yb.l1 (K : Nat) (Gu : List Int) : Nat → (List Int) → (List Int) → Int → qR ((List Int) × Int)
  | 0, _, _, _ => .fail
  | k + 1, Gv, Gw, Gy =>
    cond (decide (Gy < (Gu.length : Int)))
      (
      chk (inb Gy Gu.length) <|
      lt ((rd Gu Gy)) fun (Gx : Int) =>
      cond (decide (Gx > (0 : Int)))
        (
        chk (inb Gx 16) <|
        chk (inb Gy Gw.length) <|
        lt (Gw.set (Int.toNat Gy) (rd Gv Gx)) fun (Gz : (List Int)) =>
        lt (Gv.set (Int.toNat Gx) (qh ((rd Gv Gx) + (1 : Int)))) fun (GA : (List Int)) =>
        yb.l1 K Gu k GA Gz (qh (Gy + (1 : Int))))
        (
        yb.l1 K Gu k Gv Gw (qh (Gy + (1 : Int)))))
      (
      .ok (Gw, (0 : Int)))
def yb.m (K : Nat) (Gu : List Int) : qR ((List Int) × Int) :=
  (xx.m K Gu).bind fun Gv =>
  cond (Gv != (0 : Int))
    (
    .ok (([] : List Int), Gv))
    (
    (xi.m K Gu).bind fun (Gx, Gz) =>
    (zP.m K Gx).bind fun Gy =>
    chk (decide (0 ≤ (Gu.length : Int)) && room (Int.toNat (Gu.length : Int)) 8) <|
    lt (List.replicate (Int.toNat (Gu.length : Int)) (0 : Int)) fun (Gw : (List Int)) =>
    yb.l1 K Gu K Gy Gw (0 : Int))
def yg.m (K : Nat) (Gu : List Int) : qR (List Int) :=
  (yb.m K Gu).bind fun (Gv, Gw) =>
  .ok Gv
def zp.j4 (K : Nat) (Gw : (List Int)) (Gx : (List Int)) : qR ((List Int) × (List Int) × (List Int) × (List Int)) :=
  (yg.m K Gw).bind fun Gu =>
  (yg.m K Gx).bind fun Gv =>
  .ok (Gw, Gu, Gx, Gv)
def zp.l3 (K : Nat) (Gv : (List Int)) (Gw : (List Int)) : Nat → (List Int) → Int → qR ((List Int) × (List Int) × (List Int) × (List Int))
  | 0, _, _ => .fail
  | k + 1, Gx, Gu =>
    cond (decide (Gu < (Gw.length : Int)))
      (
      chk (inb Gu Gx.length) <|
      lt (Gx.set (Int.toNat Gu) (5 : Int)) fun (Gy : (List Int)) =>
      zp.l3 K Gv Gw k Gy (qh (Gu + (1 : Int))))
      (
      zp.j4 K Gv Gx)
def zp.j2 (K : Nat)  (Gv : (List Int)) : qR ((List Int) × (List Int) × (List Int) × (List Int)) :=
  chk (decide (0 ≤ (32 : Int)) && room (Int.toNat (32 : Int)) 8) <|
  lt (List.replicate (Int.toNat (32 : Int)) (0 : Int)) fun (Gu : (List Int)) =>
  zp.l3 K Gv Gu K Gu (0 : Int)
def zp.l1 (K : Nat) (Gw : (List Int)) : Nat → (List Int) → Int → qR ((List Int) × (List Int) × (List Int) × (List Int))
  | 0, _, _ => .fail
  | k + 1, Gv, Gu =>
    cond (decide (Gu < (Gw.length : Int)))
      (
      lt (((decide (Gu < (144 : Int))) || (decide (Gu ≥ (280 : Int))))) fun (GA : Bool) =>
      cond GA
        (
        chk (inb Gu Gv.length) <|
        lt (Gv.set (Int.toNat Gu) (8 : Int)) fun (Gx : (List Int)) =>
        zp.l1 K Gw k Gx (qh (Gu + (1 : Int))))
        (
        lt ((decide (Gu < (256 : Int)))) fun (GB : Bool) =>
        cond GB
          (
          chk (inb Gu Gv.length) <|
          lt (Gv.set (Int.toNat Gu) (9 : Int)) fun (Gy : (List Int)) =>
          zp.l1 K Gw k Gy (qh (Gu + (1 : Int))))
          (
          chk (inb Gu Gv.length) <|
          lt (Gv.set (Int.toNat Gu) (7 : Int)) fun (Gz : (List Int)) =>
          zp.l1 K Gw k Gz (qh (Gu + (1 : Int))))))
      (
      zp.j2 K Gv)
def zp.m (K : Nat) : qR ((List Int) × (List Int) × (List Int) × (List Int)) :=
  chk (decide (0 ≤ (288 : Int)) && room (Int.toNat (288 : Int)) 8) <|
  lt (List.replicate (Int.toNat (288 : Int)) (0 : Int)) fun (Gu : (List Int)) =>
  zp.l1 K Gu K Gu (0 : Int)
def qs.j2 (K : Nat) (g1 : Int → (List Int) → Int → Int → qR (Int × Int × (List Int))) (Gu : Int) (Gy : Int) (Gx : Int) (Gw : (List Int)) : qR (Int × Int × (List Int)) :=
  lt ((if Gx < (qh ((8 : Int) - (x8 .i64 Gu (7 : Int)))) then Gx else (qh ((8 : Int) - (x8 .i64 Gu (7 : Int)))))) fun (Gv : Int) =>
  chk (inb (yY .i64 Gu (8 : Int)) Gw.length) <|
  chk (decide (0 ≤ Gv)) <|
  chk (decide (0 ≤ (x8 .i64 Gu (7 : Int)))) <|
  lt (Gw.set (Int.toNat (yY .i64 Gu (8 : Int))) (Bh .u8 (rd Gw (yY .i64 Gu (8 : Int))) (xz .u8 (wr .u8 (x8 .u32 Gy (wr .u32 ((xz .u32 (1 : Int) Gv) - (1 : Int))))) (x8 .i64 Gu (7 : Int))))) fun (Gz : (List Int)) =>
  lt ((xC .u32 Gy Gv)) fun (GB : Int) =>
  lt ((qh (Gx - Gv))) fun (GA : Int) =>
  g1 (qh (Gu + Gv)) Gz GB GA
def qs.l1 (K : Nat)  : Nat → Int → (List Int) → Int → Int → qR (Int × Int × (List Int))
  | 0, _, _, _, _ => .fail
  | k + 1, Gv, Gu, Gx, Gw =>
    cond (decide (Gw > (0 : Int)))
      (
      cond ((x8 .i64 Gv (7 : Int)) == (0 : Int))
        (
        chk (room (Gu.length + ([(0 : Int)] : List Int).length) 1) <|
        lt (Gu ++ ([(0 : Int)] : List Int)) fun (Gy : (List Int)) =>
        qs.j2 K (qs.l1 K k) Gv Gx Gw Gy)
        (
        qs.j2 K (qs.l1 K k) Gv Gx Gw Gu))
      (
      .ok ((0 : Int), Gv, Gu))
def qs.m (K : Nat) (Gv : qt) (Gw : Int) (Gu : Int) : qR (Int × Int × (List Int)) :=
  chk (imp false ((decide (Gu < (0 : Int))) || (decide (Gu > (32 : Int)))) (decide (0 ≤ Gu))) <|
  cond (((decide (Gu < (0 : Int))) || (decide (Gu > (32 : Int)))) || (decide ((xC .u64 (wr .u64 Gw) Gu) > (0 : Int))))
    (
    .ok ((1 : Int), Gv.Writer_.place_.at_, Gv.Writer_.bytes_))
    (
    qs.l1 K K Gv.Writer_.place_.at_ Gv.Writer_.bytes_ Gw Gu)
def zQ.l1 (K : Nat) (Gu : qt) (Gz : Int) : Nat → Int → (List Int) → Int → qR (Int × (List Int))
  | 0, _, _, _ => .fail
  | k + 1, Gw, Gv, Gy =>
    cond (decide (Gy ≥ (0 : Int)))
      (
      chk (inb Gz Gu.literals_.codes_.length) <|
      chk (decide (0 ≤ Gy)) <|
      (qs.m K (qt.mk (qW.mk (q8.mk Gw) Gv) Gu.literals_ Gu.distances_) (wr .u32 (x8 .i64 (xC .i64 (rd Gu.literals_.codes_ Gz) Gy) (1 : Int))) (1 : Int)).bind fun (GC, GA, Gx) =>
      lt ((qh (Gy - (1 : Int)))) fun (GB : Int) =>
      zQ.l1 K Gu Gz k GA Gx GB)
      (
      .ok (Gw, Gv))
def zQ.m (K : Nat) (Gu : qt) (Gx : qx) (Gv : Int) : qR (Int × (List Int)) :=
  chk (inb Gv Gu.literals_.lengths_.length) <|
  lt ((qh ((rd Gu.literals_.lengths_ Gv) - (1 : Int)))) fun (Gw : Int) =>
  zQ.l1 K Gu Gv K Gu.Writer_.place_.at_ Gu.Writer_.bytes_ Gw
def xb.j2 (K : Nat) (Gx : Int) (Gu : Int) (Gv : Int) (Gw : Int) : qR (Int × Int × Int) :=
  chk (decide (0 ≤ Gu)) <|
  chk (decide (0 ≤ Gv)) <|
  .ok ((qh ((xz .i64 Gv Gu) + Gw)), Gv, (wr .u32 (qh (Gx - (xz .i64 Gw Gv)))))
def xb.l1 (K : Nat) (Gw : Int) (Gu : Int) : Nat → Int → Int → qR (Int × Int × Int)
  | 0, _, _ => .fail
  | k + 1, Gx, Gv =>
    chk (decide (0 ≤ Gu)) <|
    cond (decide (Gv ≥ (xz .i64 (2 : Int) Gu)))
      (
      lt ((xC .i64 Gv (1 : Int))) fun (Gy : Int) =>
      lt ((qh (Gx + (1 : Int)))) fun (Gz : Int) =>
      xb.l1 K Gw Gu k Gz Gy)
      (
      xb.j2 K Gw Gu Gx Gv)
def xb.m (K : Nat) (Gv : Int) (Gu : Int) : qR (Int × Int × Int) :=
  xb.l1 K Gv Gu K (0 : Int) Gv
def yI.m (K : Nat) (Gx : Int) : qR (Int × Int × Int) :=
  cond (Gx == (258 : Int))
    (
    .ok ((285 : Int), (0 : Int), (0 : Int)))
    (
    (xb.m K (qh (Gx - (3 : Int))) (2 : Int)).bind fun (Gu, Gv, Gw) =>
    .ok ((qh (Gu + (257 : Int))), Gv, Gw))
def yf.m (K : Nat) (Gu : qt) (GA : qx) (Gx : xT) : qR (Int × (List Int)) :=
  (zQ.m K Gu Gu.literals_ Gx.symbol_).bind fun (Gy, Gv) =>
  (qs.m K (qt.mk (qW.mk (q8.mk Gy) Gv) Gu.literals_ Gu.distances_) Gx.more_ Gx.bits_).bind fun (GB, Gz, Gw) =>
  .ok (Gz, Gw)
def yv.m (K : Nat) (Gx : Int) : qR (Int × Int × Int) :=
  (xb.m K (qh (Gx - (1 : Int))) (1 : Int)).bind fun (Gu, Gv, Gw) =>
  .ok (Gu, Gv, Gw)
def z5.l1 (K : Nat) (Gv : qt) (GA : Int) : Nat → Int → (List Int) → Int → qR (Int × (List Int))
  | 0, _, _, _ => .fail
  | k + 1, Gw, Gu, Gx =>
    cond (decide (Gx ≥ (0 : Int)))
      (
      chk (inb GA Gv.distances_.codes_.length) <|
      chk (decide (0 ≤ Gx)) <|
      (qs.m K (qt.mk (qW.mk (q8.mk Gw) Gu) Gv.literals_ Gv.distances_) (wr .u32 (x8 .i64 (xC .i64 (rd Gv.distances_.codes_ GA) Gx) (1 : Int))) (1 : Int)).bind fun (GC, Gz, Gy) =>
      lt ((qh (Gx - (1 : Int)))) fun (GB : Int) =>
      z5.l1 K Gv GA k Gz Gy GB)
      (
      .ok (Gw, Gu))
def z5.m (K : Nat) (Gu : qt) (Gx : qx) (Gv : Int) : qR (Int × (List Int)) :=
  chk (inb Gv Gu.distances_.lengths_.length) <|
  lt ((qh ((rd Gu.distances_.lengths_ Gv) - (1 : Int)))) fun (Gw : Int) =>
  z5.l1 K Gu Gv K Gu.Writer_.place_.at_ Gu.Writer_.bytes_ Gw
def ye.m (K : Nat) (Gu : qt) (GA : qx) (Gz : xT) : qR (Int × (List Int)) :=
  (z5.m K Gu Gu.distances_ Gz.symbol_).bind fun (Gx, Gv) =>
  (qs.m K (qt.mk (qW.mk (q8.mk Gx) Gv) Gu.literals_ Gu.distances_) Gz.more_ Gz.bits_).bind fun (GB, Gy, Gw) =>
  .ok (Gy, Gw)
def zt.j2 (K : Nat) (Gw : qt) (Gx : Int) (Gu : (List Int)) : qR (Int × (List Int)) :=
  (zQ.m K (qt.mk (qW.mk (q8.mk Gx) Gu) Gw.literals_ Gw.distances_) Gw.literals_ (256 : Int)).bind fun (Gy, Gv) =>
  .ok (Gy, Gv)
def zt.l1 (K : Nat) (Gu : qt) (Gw : List qr) : Nat → Int → (List Int) → Int → qR (Int × (List Int))
  | 0, _, _, _ => .fail
  | k + 1, Gy, Gv, Gx =>
    cond (decide (Gx < (Gw.length : Int)))
      (
      chk (inb Gx Gw.length) <|
      cond ((rd Gw Gx).Dist_ == (0 : Int))
        (
        (zQ.m K (qt.mk (qW.mk (q8.mk Gy) Gv) Gu.literals_ Gu.distances_) Gu.literals_ (wr .i64 (rd Gw Gx).Lit_)).bind fun (GI, GB) =>
        zt.l1 K Gu Gw k GI GB (qh (Gx + (1 : Int))))
        (
        (yI.m K ((rd Gw Gx).Len_)).bind fun (Gz, GE, GF) =>
        (yf.m K (qt.mk (qW.mk (q8.mk Gy) Gv) Gu.literals_ Gu.distances_) Gu.literals_ (xT.mk Gz GE GF)).bind fun (GJ, GC) =>
        (yv.m K ((rd Gw Gx).Dist_)).bind fun (GA, GG, GH) =>
        (ye.m K (qt.mk (qW.mk (q8.mk GJ) GC) Gu.literals_ Gu.distances_) Gu.distances_ (xT.mk GA GG GH)).bind fun (GK, GD) =>
        zt.l1 K Gu Gw k GK GD (qh (Gx + (1 : Int)))))
      (
      zt.j2 K Gu Gy Gv)
def zt.m (K : Nat) (Gu : qt) (Gv : List qr) : qR (Int × (List Int)) :=
  zt.l1 K Gu Gv K Gu.Writer_.place_.at_ Gu.Writer_.bytes_ (0 : Int)
def z3.m (K : Nat) (Gu : qt) : qR (List UInt8) :=
  lt ((Gu.Writer_.bytes_.map ZX)) fun (Gv : List UInt8) =>
  .ok Gv
def jo.m (K : Nat) (l_7 : List qr) : qR ((List UInt8) × Int) :=
  (jd.m K l_7).bind fun GD =>
  cond (!GD)
    (
    .ok (([] : List UInt8), (1 : Int)))
    (
    (zp.m K).bind fun (Gu, Gw, Gv, Gx) =>
    (qs.m K (qt.mk (qW.mk (q8.mk (0 : Int)) ([] : List Int)) (qx.mk Gu Gw) (qx.mk Gv Gx)) (3 : Int) (3 : Int)).bind fun (GE, GB, Gz) =>
    (zt.m K (qt.mk (qW.mk (q8.mk GB) Gz) (qx.mk Gu Gw) (qx.mk Gv Gx)) l_7).bind fun (GA, Gy) =>
    (z3.m K (qt.mk (qW.mk (q8.mk GA) Gy) (qx.mk Gu Gw) (qx.mk Gv Gx))).bind fun GC =>
    .ok (GC, (0 : Int)))
def jG.m (K : Nat) (Gu : Int) : qR Bool :=
  lt (((decide (Gu < (0 : Int))) || (decide (Gu > (1099511627776 : Int))))) fun (Gv : Bool) =>
  .ok Gv
def zK.l1 (K : Nat) (Gv : List Int) : Nat → Int → qR Int
  | 0, _ => .fail
  | k + 1, Gu =>
    cond (decide (Gu < (Gv.length : Int)))
      (
      chk (inb Gu Gv.length) <|
      (jG.m K (rd Gv Gu)).bind fun Gw =>
      cond Gw
        (
        .ok Gu)
        (
        zK.l1 K Gv k (qh (Gu + (1 : Int)))))
      (
      .ok (-1 : Int))
def zK.m (K : Nat) (Gu : List Int) : qR Int :=
  zK.l1 K Gu K (0 : Int)
def xA.m (K : Nat) (Gu : List Int) : qR Bool :=
  (zK.m K Gu).bind fun Gv =>
  lt ((decide (Gv ≥ (0 : Int)))) fun (Gw : Bool) =>
  .ok Gw
def y9.m (K : Nat) (Gu : Int) : qR Bool :=
  lt ((Gu != Gu)) fun (Gv : Bool) =>
  .ok Gv
def yw.m (K : Nat) (Gu : Int) (Gv : Int) : qR Int :=
  (y9.m K Gu).bind fun Gx =>
  (y9.m K Gv).bind fun Gw =>
  cond Gx
    (
    cond Gw
      (
      .ok (0 : Int))
      (
      .ok (-1 : Int)))
    (
    cond Gw
      (
      .ok (1 : Int))
      (
      cond (decide (Gu < Gv))
        (
        .ok (-1 : Int))
        (
        cond (decide (Gu > Gv))
          (
          .ok (1 : Int))
          (
          .ok (0 : Int)))))
def yi.m (K : Nat) (Gu : qb) (Gv : qb) : qR Int :=
  (yw.m K Gu.often_ Gv.often_).bind fun Gw =>
  .ok Gw
def qe.j3 (K : Nat) (g1 : (List qb) → Int → qR (List qb)) (g2 : (List qb) → Int → qR (List qb)) (Gy : Int) (Gu : (List qb)) (Gv : Int) (Gz : Bool) : qR (List qb) :=
  cond Gz
    (
    chk (inb (qh (Gv - (1 : Int))) Gu.length) <|
    chk (inb Gv Gu.length) <|
    lt (Gu.set (Int.toNat Gv) (qb.mk ((rd Gu (qh (Gv - (1 : Int)))).often_) ((rd Gu (qh (Gv - (1 : Int)))).symbols_))) fun (Gw : (List qb)) =>
    chk (inb (qh (Gv - (1 : Int))) Gw.length) <|
    lt (Gw.set (Int.toNat (qh (Gv - (1 : Int)))) (qb.mk ((rd Gu Gv).often_) ((rd Gu Gv).symbols_))) fun (Gx : (List qb)) =>
    lt ((qh (Gv - (1 : Int)))) fun (GA : Int) =>
    g2 Gx GA)
    (
    lt ((qh (Gy + (1 : Int)))) fun (GB : Int) =>
    g1 Gu GB)
def qe.l2 (K : Nat) (g1 : (List qb) → Int → qR (List qb)) (Gw : Int) (Gx : Int) : Nat → (List qb) → Int → qR (List qb)
  | 0, _, _ => .fail
  | k + 1, Gu, Gv =>
    cond (decide (Gv > Gw))
      (
      chk (inb Gv Gu.length) <|
      chk (inb (qh (Gv - (1 : Int))) Gu.length) <|
      (yi.m K (qb.mk ((rd Gu Gv).often_) ((rd Gu Gv).symbols_)) (qb.mk ((rd Gu (qh (Gv - (1 : Int)))).often_) ((rd Gu (qh (Gv - (1 : Int)))).symbols_))).bind fun Gy =>
      qe.j3 K (g1) (qe.l2 K g1 Gw Gx k) Gx Gu Gv (decide (Gy < (0 : Int))))
      (
      qe.j3 K (g1) (qe.l2 K g1 Gw Gx k) Gx Gu Gv false)
def qe.l1 (K : Nat) (Gv : Int) (Gw : Int) : Nat → (List qb) → Int → qR (List qb)
  | 0, _, _ => .fail
  | k + 1, Gu, Gx =>
    cond (decide (Gx < Gw))
      (
      qe.l2 K (qe.l1 K Gv Gw k) Gv Gx K Gu Gx)
      (
      .ok Gu)
def qe.m (K : Nat) (Gu : List qb) (Gv : Int) (Gw : Int) : qR (List qb) :=
  lt ((qh (Gv + (1 : Int)))) fun (Gx : Int) =>
  qe.l1 K Gv Gw K Gu Gx
def qK.l1 (K : Nat) (Gx : Int) (Gw : Int) (Gy : Int) : Nat → (List qb) → Int → qR (List qb)
  | 0, _, _ => .fail
  | k + 1, Gu, Gv =>
    cond (decide (Gv < Gy))
      (
      chk (inb (qh (Gw + Gv)) Gu.length) <|
      chk (inb (qh (Gx + Gv)) Gu.length) <|
      lt (Gu.set (Int.toNat (qh (Gx + Gv))) (qb.mk ((rd Gu (qh (Gw + Gv))).often_) ((rd Gu (qh (Gw + Gv))).symbols_))) fun (Gz : (List qb)) =>
      chk (inb (qh (Gw + Gv)) Gz.length) <|
      lt (Gz.set (Int.toNat (qh (Gw + Gv))) (qb.mk ((rd Gu (qh (Gx + Gv))).often_) ((rd Gu (qh (Gx + Gv))).symbols_))) fun (GA : (List qb)) =>
      lt ((qh (Gv + (1 : Int)))) fun (GB : Int) =>
      qK.l1 K Gx Gw Gy k GA GB)
      (
      .ok Gu)
def qK.m (K : Nat) (Gu : List qb) (Gv : Int) (Gw : Int) (Gx : Int) : qR (List qb) :=
  qK.l1 K Gv Gw Gx K Gu (0 : Int)
def qA.j2 (K : Nat) (Gw : Int) (Gu : (List qb)) (Gx : Int) : qR (List qb) :=
  (qK.m K Gu (qh (Gw - Gx)) Gw Gx).bind fun Gv =>
  .ok Gv
def qA.l1 (K : Nat) (Gv : Int) : Nat → (List qb) → Int → Int → qR (List qb)
  | 0, _, _, _ => .fail
  | k + 1, Gw, Gu, Gx =>
    cond (Gu != Gx)
      (
      cond (decide (Gu > Gx))
        (
        (qK.m K Gw (qh (Gv - Gu)) Gv Gx).bind fun Gy =>
        lt ((qh (Gu - Gx))) fun (GA : Int) =>
        qA.l1 K Gv k Gy GA Gx)
        (
        (qK.m K Gw (qh (Gv - Gu)) (qh ((qh (Gv + Gx)) - Gu)) Gu).bind fun Gz =>
        lt ((qh (Gx - Gu))) fun (GB : Int) =>
        qA.l1 K Gv k Gz Gu GB))
      (
      qA.j2 K Gv Gw Gu)
def qA.m (K : Nat) (Gu : List qb) (Gw : Int) (Gv : Int) (Gx : Int) : qR (List qb) :=
  lt ((qh (Gv - Gw))) fun (Gy : Int) =>
  lt ((qh (Gx - Gv))) fun (Gz : Int) =>
  qA.l1 K Gv K Gu Gy Gz
def qa.l3 (K : Nat) (rc : (List qb) → Int → Int → Int → qR (List qb)) (Gx : Int) : Nat → (List qb) → Int → qR (List qb)
  | 0, _, _ => .fail
  | k + 1, Gu, Gv =>
    cond (decide (Gv < (qh (Gx - (1 : Int)))))
      (
      chk (inb (qh (Gv + (1 : Int))) Gu.length) <|
      chk (inb Gv Gu.length) <|
      lt (Gu.set (Int.toNat Gv) (qb.mk ((rd Gu (qh (Gv + (1 : Int)))).often_) ((rd Gu (qh (Gv + (1 : Int)))).symbols_))) fun (Gw : (List qb)) =>
      chk (inb (qh (Gv + (1 : Int))) Gw.length) <|
      lt (Gw.set (Int.toNat (qh (Gv + (1 : Int)))) (qb.mk ((rd Gu Gv).often_) ((rd Gu Gv).symbols_))) fun (Gy : (List qb)) =>
      lt ((qh (Gv + (1 : Int)))) fun (Gz : Int) =>
      qa.l3 K rc Gx k Gy Gz)
      (
      .ok Gu)
def qa.j2 (K : Nat) (rc : (List qb) → Int → Int → Int → qR (List qb)) (Gu : List qb) (Gv : Int) (Gw : Int) : qR (List qb) :=
  qa.l3 K rc Gw K Gu Gv
def qa.l1 (K : Nat) (rc : (List qb) → Int → Int → Int → qR (List qb)) (Gu : List qb) (Gv : Int) : Nat → Int → Int → qR (List qb)
  | 0, _, _ => .fail
  | k + 1, Gx, Gy =>
    cond (decide (Gx < Gy))
      (
      lt ((wr .i64 (xC .u64 (wr .u64 (qh (Gx + Gy))) (1 : Int)))) fun (Gw : Int) =>
      chk (inb Gw Gu.length) <|
      chk (inb Gv Gu.length) <|
      (yi.m K (qb.mk ((rd Gu Gw).often_) ((rd Gu Gw).symbols_)) (qb.mk ((rd Gu Gv).often_) ((rd Gu Gv).symbols_))).bind fun Gz =>
      cond (decide (Gz < (0 : Int)))
        (
        lt ((qh (Gw + (1 : Int)))) fun (GA : Int) =>
        qa.l1 K rc Gu Gv k GA Gy)
        (
        qa.l1 K rc Gu Gv k Gx Gw))
      (
      qa.j2 K rc Gu Gv Gx)
def qa.l7 (K : Nat) (rc : (List qb) → Int → Int → Int → qR (List qb)) (Gx : Int) : Nat → (List qb) → Int → qR (List qb)
  | 0, _, _ => .fail
  | k + 1, Gu, Gv =>
    cond (decide (Gv > Gx))
      (
      chk (inb (qh (Gv - (1 : Int))) Gu.length) <|
      chk (inb Gv Gu.length) <|
      lt (Gu.set (Int.toNat Gv) (qb.mk ((rd Gu (qh (Gv - (1 : Int)))).often_) ((rd Gu (qh (Gv - (1 : Int)))).symbols_))) fun (Gw : (List qb)) =>
      chk (inb (qh (Gv - (1 : Int))) Gw.length) <|
      lt (Gw.set (Int.toNat (qh (Gv - (1 : Int)))) (qb.mk ((rd Gu Gv).often_) ((rd Gu Gv).symbols_))) fun (Gy : (List qb)) =>
      lt ((qh (Gv - (1 : Int)))) fun (Gz : Int) =>
      qa.l7 K rc Gx k Gy Gz)
      (
      .ok Gu)
def qa.j6 (K : Nat) (rc : (List qb) → Int → Int → Int → qR (List qb)) (Gu : List qb) (Gv : Int) (Gw : Int) : qR (List qb) :=
  qa.l7 K rc Gw K Gu Gv
def qa.l5 (K : Nat) (rc : (List qb) → Int → Int → Int → qR (List qb)) (Gu : List qb) (Gv : Int) : Nat → Int → Int → qR (List qb)
  | 0, _, _ => .fail
  | k + 1, Gx, Gy =>
    cond (decide (Gx < Gy))
      (
      lt ((wr .i64 (xC .u64 (wr .u64 (qh (Gx + Gy))) (1 : Int)))) fun (Gw : Int) =>
      chk (inb Gv Gu.length) <|
      chk (inb Gw Gu.length) <|
      (yi.m K (qb.mk ((rd Gu Gv).often_) ((rd Gu Gv).symbols_)) (qb.mk ((rd Gu Gw).often_) ((rd Gu Gw).symbols_))).bind fun Gz =>
      cond (!(decide (Gz < (0 : Int))))
        (
        lt ((qh (Gw + (1 : Int)))) fun (GA : Int) =>
        qa.l5 K rc Gu Gv k GA Gy)
        (
        qa.l5 K rc Gu Gv k Gx Gw))
      (
      qa.j6 K rc Gu Gv Gx)
def qa.j13 (K : Nat) (rc : (List qb) → Int → Int → Int → qR (List qb)) (Gx : Int) (Gw : Int) (Gu : Int) (Gv : (List qb)) : qR (List qb) :=
  cond ((decide (Gw < Gu)) && (decide (Gu < Gx)))
    (
    (rc Gv Gw Gu Gx).bind fun Gy =>
    .ok Gy)
    (
    .ok Gv)
def qa.j12 (K : Nat) (rc : (List qb) → Int → Int → Int → qR (List qb)) (Gy : Int) (Gz : Int) (Gv : Int) (Gu : Int) (Gw : Int) (Gx : (List qb)) : qR (List qb) :=
  cond ((decide (Gy < Gu)) && (decide (Gu < Gv)))
    (
    (rc Gx Gy Gu Gv).bind fun GA =>
    qa.j13 K rc Gz Gv Gw GA)
    (
    qa.j13 K rc Gz Gv Gw Gx)
def qa.j11 (K : Nat) (rc : (List qb) → Int → Int → Int → qR (List qb)) (Gw : List qb) (Gy : Int) (Gz : Int) (GA : Int) (Gx : Int) (GC : Int) (Gu : Int) : qR (List qb) :=
  lt ((qh (GC - Gu))) fun (Gv : Int) =>
  cond ((decide (Gu < Gz)) && (decide (Gz < Gv)))
    (
    (qA.m K Gw Gu Gz Gv).bind fun GB =>
    qa.j12 K rc Gy GA Gx Gu Gv GB)
    (
    qa.j12 K rc Gy GA Gx Gu Gv Gw)
def qa.l10 (K : Nat) (rc : (List qb) → Int → Int → Int → qR (List qb)) (Gu : List qb) (Gz : Int) (GD : Int) (GA : Int) (Gx : Int) (GB : Int) (Gy : Int) : Nat → Int → Int → qR (List qb)
  | 0, _, _ => .fail
  | k + 1, Gw, GE =>
    cond (decide (Gw < GE))
      (
      lt ((wr .i64 (xC .u64 (wr .u64 (qh (Gw + GE))) (1 : Int)))) fun (Gv : Int) =>
      chk (inb (qh (Gy - Gv)) Gu.length) <|
      chk (inb Gv Gu.length) <|
      (yi.m K (qb.mk ((rd Gu (qh (Gy - Gv))).often_) ((rd Gu (qh (Gy - Gv))).symbols_)) (qb.mk ((rd Gu Gv).often_) ((rd Gu Gv).symbols_))).bind fun GF =>
      cond (!(decide (GF < (0 : Int))))
        (
        lt ((qh (Gv + (1 : Int)))) fun (GC : Int) =>
        qa.l10 K rc Gu Gz GD GA Gx GB Gy k GC GE)
        (
        qa.l10 K rc Gu Gz GD GA Gx GB Gy k Gw Gv))
      (
      qa.j11 K rc Gu Gz GD GA Gx GB Gw)
def qa.j9 (K : Nat) (rc : (List qb) → Int → Int → Int → qR (List qb)) (Gv : List qb) (Gy : Int) (GA : Int) (Gz : Int) (Gx : Int) (Gw : Int) (Gu : Int) (GB : Int) : qR (List qb) :=
  lt ((qh (Gw - (1 : Int)))) fun (GC : Int) =>
  qa.l10 K rc Gv Gy GA Gz Gx Gw GC K Gu GB
def qa.j8 (K : Nat) (rc : (List qb) → Int → Int → Int → qR (List qb)) (Gx : List qb) (Gv : Int) (Gy : Int) (Gw : Int) : qR (List qb) :=
  lt ((wr .i64 (xC .u64 (wr .u64 (qh (Gv + Gw))) (1 : Int)))) fun (Gu : Int) =>
  lt ((qh (Gu + Gy))) fun (Gz : Int) =>
  cond (decide (Gy > Gu))
    (
    lt ((qh (Gz - Gw))) fun (GA : Int) =>
    qa.j9 K rc Gx Gv Gy Gw Gu Gz GA Gu)
    (
    qa.j9 K rc Gx Gv Gy Gw Gu Gz Gv Gy)
def qa.j4 (K : Nat) (rc : (List qb) → Int → Int → Int → qR (List qb)) (Gu : List qb) (Gw : Int) (Gv : Int) (Gx : Int) : qR (List qb) :=
  cond ((qh (Gx - Gv)) == (1 : Int))
    (
    qa.l5 K rc Gu Gv K Gw Gv)
    (
    qa.j8 K rc Gu Gw Gv Gx)
def qa.b (K : Nat) (rc : (List qb) → Int → Int → Int → qR (List qb)) (Gu : List qb) (Gv : Int) (Gw : Int) (Gx : Int) : qR (List qb) :=
  cond ((qh (Gw - Gv)) == (1 : Int))
    (
    qa.l1 K rc Gu Gv K Gw Gx)
    (
    qa.j4 K rc Gu Gv Gw Gx)
def qa.r (K : Nat) : Nat → (List qb) → Int → Int → Int → qR (List qb)
  | 0 => fun _ _ _ _ => .fail
  | d + 1 => qa.b K (qa.r K d)
def qa.m (K : Nat) (Gu : List qb) (Gv : Int) (Gx : Int) (Gw : Int) : qR (List qb) := qa.r K K Gu Gv Gx Gw
def qf.j5 (K : Nat) (g3 : (List qb) → Int → qR (List qb)) (Gy : Int) (Gu : Int) (Gx : (List qb)) (Gz : Int) : qR (List qb) :=
  lt ((qh (Gz + Gu))) fun (GB : Int) =>
  cond (decide (GB < Gy))
    (
    (qa.m K Gx Gz GB Gy).bind fun GA =>
    lt ((qh (Gu * (2 : Int)))) fun (Gv : Int) =>
    g3 GA Gv)
    (
    lt ((qh (Gu * (2 : Int)))) fun (Gw : Int) =>
    g3 Gx Gw)
def qf.l4 (K : Nat) (g3 : (List qb) → Int → qR (List qb)) (Gx : Int) (Gu : Int) : Nat → (List qb) → Int → Int → qR (List qb)
  | 0, _, _, _ => .fail
  | k + 1, Gw, Gy, Gv =>
    cond (decide (Gv ≤ Gx))
      (
      (qa.m K Gw Gy (qh (Gy + Gu)) Gv).bind fun Gz =>
      lt ((qh (Gv + (qh ((2 : Int) * Gu))))) fun (GA : Int) =>
      qf.l4 K g3 Gx Gu k Gz Gv GA)
      (
      qf.j5 K (g3) Gx Gu Gw Gy)
def qf.l3 (K : Nat) (Gw : Int) : Nat → (List qb) → Int → qR (List qb)
  | 0, _, _ => .fail
  | k + 1, Gv, Gu =>
    cond (decide (Gu < Gw))
      (
      lt ((qh ((2 : Int) * Gu))) fun (Gx : Int) =>
      qf.l4 K (qf.l3 K Gw k) Gw Gu K Gv (0 : Int) Gx)
      (
      .ok Gv)
def qf.j2 (K : Nat) (Gu : Int) (Gv : (List qb)) (Gx : Int) : qR (List qb) :=
  (qe.m K Gv Gx Gu).bind fun Gw =>
  qf.l3 K Gu K Gw (20 : Int)
def qf.l1 (K : Nat) (Gw : Int) : Nat → (List qb) → Int → Int → qR (List qb)
  | 0, _, _, _ => .fail
  | k + 1, Gv, Gx, Gu =>
    cond (decide (Gu ≤ Gw))
      (
      (qe.m K Gv Gx Gu).bind fun Gy =>
      lt ((qh (Gu + (20 : Int)))) fun (Gz : Int) =>
      qf.l1 K Gw k Gy Gu Gz)
      (
      qf.j2 K Gw Gv Gx)
def qf.m (K : Nat) (Gu : List qb) (Gv : Int) : qR (List qb) :=
  qf.l1 K Gv K Gu (0 : Int) (20 : Int)
def zn.m (K : Nat) (Gv : List qb) : qR (List qb) :=
  (qf.m K Gv (Gv.length : Int)).bind fun Gu =>
  .ok Gu
def xG.m (K : Nat) (Gv : Int) : qR Unit :=
  cond (decide (Gv < (0 : Int)))
    (
    .pan (.iface Qn (yc ([99, 97, 110, 110, 111, 116, 32, 98, 101, 32, 110, 101, 103, 97, 116, 105, 118, 101] : List UInt8))))
    (
    lt ((qh (Gv - (qh ((0 : Int) - (0 : Int)))))) fun (Gu : Int) =>
    cond (decide (Gu > (0 : Int)))
      (
      chk (decide ((0 : Int) < Gu) && room (Int.toNat Gu) 8) <|
      .ok ())
      (
      .ok ()))
def qX.l3 (K : Nat) (Gu : List (List Int)) : Nat → (List Int) → Int → qR (List Int)
  | 0, _, _ => .fail
  | k + 1, Gv, Gw =>
    cond (decide (Gw < (Gu.length : Int)))
      (
      chk (inb Gw Gu.length) <|
      chk (room (Gv.length + (rd Gu Gw).length) 8) <|
      lt (Gv ++ (rd Gu Gw)) fun (Gx : (List Int)) =>
      qX.l3 K Gu k Gx (qh (Gw + (1 : Int))))
      (
      .ok Gv)
def qX.j2 (K : Nat) (Gu : List (List Int)) (Gv : Int) : qR (List Int) :=
  (xG.m K Gv).bind fun _ =>
  qX.l3 K Gu K ([] : List Int) (0 : Int)
def qX.l1 (K : Nat) (Gu : List (List Int)) : Nat → Int → Int → qR (List Int)
  | 0, _, _ => .fail
  | k + 1, Gv, Gx =>
    cond (decide (Gx < (Gu.length : Int)))
      (
      chk (inb Gx Gu.length) <|
      lt ((qh (Gv + ((rd Gu Gx).length : Int)))) fun (Gw : Int) =>
      cond (decide (Gw < (0 : Int)))
        (
        .pan (.iface Qn (yc ([108, 101, 110, 32, 111, 117, 116, 32, 111, 102, 32, 114, 97, 110, 103, 101] : List UInt8))))
        (
        qX.l1 K Gu k Gw (qh (Gx + (1 : Int)))))
      (
      qX.j2 K Gu Gv)
def qX.m (K : Nat) (Gu : List (List Int)) : qR (List Int) :=
  qX.l1 K Gu K (0 : Int) (0 : Int)
def xV.l1 (K : Nat) (Gu : List qb) : Nat → (List qb) → Int → qR (List qb)
  | 0, _, _ => .fail
  | k + 1, Gw, Gv =>
    cond (decide ((qh (Gv + (1 : Int))) < (Gu.length : Int)))
      (
      chk (inb Gv Gu.length) <|
      chk (inb (qh (Gv + (1 : Int))) Gu.length) <|
      (qX.m K ([(rd Gu Gv).symbols_, (rd Gu (qh (Gv + (1 : Int)))).symbols_] : List (List Int))).bind fun Gx =>
      chk (room (Gw.length + ([(qb.mk (qh ((rd Gu Gv).often_ + (rd Gu (qh (Gv + (1 : Int)))).often_)) Gx)] : List qb).length) 32) <|
      lt (Gw ++ ([(qb.mk (qh ((rd Gu Gv).often_ + (rd Gu (qh (Gv + (1 : Int)))).often_)) Gx)] : List qb)) fun (Gy : (List qb)) =>
      lt ((qh (Gv + (2 : Int)))) fun (Gz : Int) =>
      xV.l1 K Gu k Gy Gz)
      (
      .ok Gw)
def xV.m (K : Nat) (Gu : List qb) : qR (List qb) :=
  xV.l1 K Gu K ([] : List qb) (0 : Int)
def z4.m (K : Nat) (Gv : Int) : qR Unit :=
  cond (decide (Gv < (0 : Int)))
    (
    .pan (.iface Qn (yc ([99, 97, 110, 110, 111, 116, 32, 98, 101, 32, 110, 101, 103, 97, 116, 105, 118, 101] : List UInt8))))
    (
    lt ((qh (Gv - (qh ((0 : Int) - (0 : Int)))))) fun (Gu : Int) =>
    cond (decide (Gu > (0 : Int)))
      (
      chk (decide ((0 : Int) < Gu) && room (Int.toNat Gu) 32) <|
      .ok ())
      (
      .ok ()))
def qw.l3 (K : Nat) (Gu : List (List qb)) : Nat → (List qb) → Int → qR (List qb)
  | 0, _, _ => .fail
  | k + 1, Gv, Gw =>
    cond (decide (Gw < (Gu.length : Int)))
      (
      chk (inb Gw Gu.length) <|
      chk (room (Gv.length + (rd Gu Gw).length) 32) <|
      lt (Gv ++ (rd Gu Gw)) fun (Gx : (List qb)) =>
      qw.l3 K Gu k Gx (qh (Gw + (1 : Int))))
      (
      .ok Gv)
def qw.j2 (K : Nat) (Gu : List (List qb)) (Gv : Int) : qR (List qb) :=
  (z4.m K Gv).bind fun _ =>
  qw.l3 K Gu K ([] : List qb) (0 : Int)
def qw.l1 (K : Nat) (Gu : List (List qb)) : Nat → Int → Int → qR (List qb)
  | 0, _, _ => .fail
  | k + 1, Gv, Gx =>
    cond (decide (Gx < (Gu.length : Int)))
      (
      chk (inb Gx Gu.length) <|
      lt ((qh (Gv + ((rd Gu Gx).length : Int)))) fun (Gw : Int) =>
      cond (decide (Gw < (0 : Int)))
        (
        .pan (.iface Qn (yc ([108, 101, 110, 32, 111, 117, 116, 32, 111, 102, 32, 114, 97, 110, 103, 101] : List UInt8))))
        (
        qw.l1 K Gu k Gw (qh (Gx + (1 : Int)))))
      (
      qw.j2 K Gu Gv)
def qw.m (K : Nat) (Gu : List (List qb)) : qR (List qb) :=
  qw.l1 K Gu K (0 : Int) (0 : Int)
def yW.m (K : Nat) (Gu : qb) (Gv : qb) : qR Int :=
  (yw.m K Gu.often_ Gv.often_).bind fun Gw =>
  .ok Gw
def qi.j3 (K : Nat) (g1 : (List qb) → Int → qR (List qb)) (g2 : (List qb) → Int → qR (List qb)) (Gy : Int) (Gu : (List qb)) (Gv : Int) (Gz : Bool) : qR (List qb) :=
  cond Gz
    (
    chk (inb (qh (Gv - (1 : Int))) Gu.length) <|
    chk (inb Gv Gu.length) <|
    lt (Gu.set (Int.toNat Gv) (qb.mk ((rd Gu (qh (Gv - (1 : Int)))).often_) ((rd Gu (qh (Gv - (1 : Int)))).symbols_))) fun (Gw : (List qb)) =>
    chk (inb (qh (Gv - (1 : Int))) Gw.length) <|
    lt (Gw.set (Int.toNat (qh (Gv - (1 : Int)))) (qb.mk ((rd Gu Gv).often_) ((rd Gu Gv).symbols_))) fun (Gx : (List qb)) =>
    lt ((qh (Gv - (1 : Int)))) fun (GA : Int) =>
    g2 Gx GA)
    (
    lt ((qh (Gy + (1 : Int)))) fun (GB : Int) =>
    g1 Gu GB)
def qi.l2 (K : Nat) (g1 : (List qb) → Int → qR (List qb)) (Gw : Int) (Gx : Int) : Nat → (List qb) → Int → qR (List qb)
  | 0, _, _ => .fail
  | k + 1, Gu, Gv =>
    cond (decide (Gv > Gw))
      (
      chk (inb Gv Gu.length) <|
      chk (inb (qh (Gv - (1 : Int))) Gu.length) <|
      (yW.m K (qb.mk ((rd Gu Gv).often_) ((rd Gu Gv).symbols_)) (qb.mk ((rd Gu (qh (Gv - (1 : Int)))).often_) ((rd Gu (qh (Gv - (1 : Int)))).symbols_))).bind fun Gy =>
      qi.j3 K (g1) (qi.l2 K g1 Gw Gx k) Gx Gu Gv (decide (Gy < (0 : Int))))
      (
      qi.j3 K (g1) (qi.l2 K g1 Gw Gx k) Gx Gu Gv false)
def qi.l1 (K : Nat) (Gv : Int) (Gw : Int) : Nat → (List qb) → Int → qR (List qb)
  | 0, _, _ => .fail
  | k + 1, Gu, Gx =>
    cond (decide (Gx < Gw))
      (
      qi.l2 K (qi.l1 K Gv Gw k) Gv Gx K Gu Gx)
      (
      .ok Gu)
def qi.m (K : Nat) (Gu : List qb) (Gv : Int) (Gw : Int) : qR (List qb) :=
  lt ((qh (Gv + (1 : Int)))) fun (Gx : Int) =>
  qi.l1 K Gv Gw K Gu Gx
def qZ.l1 (K : Nat) (Gx : Int) (Gw : Int) (Gy : Int) : Nat → (List qb) → Int → qR (List qb)
  | 0, _, _ => .fail
  | k + 1, Gu, Gv =>
    cond (decide (Gv < Gy))
      (
      chk (inb (qh (Gw + Gv)) Gu.length) <|
      chk (inb (qh (Gx + Gv)) Gu.length) <|
      lt (Gu.set (Int.toNat (qh (Gx + Gv))) (qb.mk ((rd Gu (qh (Gw + Gv))).often_) ((rd Gu (qh (Gw + Gv))).symbols_))) fun (Gz : (List qb)) =>
      chk (inb (qh (Gw + Gv)) Gz.length) <|
      lt (Gz.set (Int.toNat (qh (Gw + Gv))) (qb.mk ((rd Gu (qh (Gx + Gv))).often_) ((rd Gu (qh (Gx + Gv))).symbols_))) fun (GA : (List qb)) =>
      lt ((qh (Gv + (1 : Int)))) fun (GB : Int) =>
      qZ.l1 K Gx Gw Gy k GA GB)
      (
      .ok Gu)
def qZ.m (K : Nat) (Gu : List qb) (Gv : Int) (Gw : Int) (Gx : Int) : qR (List qb) :=
  qZ.l1 K Gv Gw Gx K Gu (0 : Int)
def qQ.j2 (K : Nat) (Gw : Int) (Gu : (List qb)) (Gx : Int) : qR (List qb) :=
  (qZ.m K Gu (qh (Gw - Gx)) Gw Gx).bind fun Gv =>
  .ok Gv
def qQ.l1 (K : Nat) (Gv : Int) : Nat → (List qb) → Int → Int → qR (List qb)
  | 0, _, _, _ => .fail
  | k + 1, Gw, Gu, Gx =>
    cond (Gu != Gx)
      (
      cond (decide (Gu > Gx))
        (
        (qZ.m K Gw (qh (Gv - Gu)) Gv Gx).bind fun Gy =>
        lt ((qh (Gu - Gx))) fun (GA : Int) =>
        qQ.l1 K Gv k Gy GA Gx)
        (
        (qZ.m K Gw (qh (Gv - Gu)) (qh ((qh (Gv + Gx)) - Gu)) Gu).bind fun Gz =>
        lt ((qh (Gx - Gu))) fun (GB : Int) =>
        qQ.l1 K Gv k Gz Gu GB))
      (
      qQ.j2 K Gv Gw Gu)
def qQ.m (K : Nat) (Gu : List qb) (Gw : Int) (Gv : Int) (Gx : Int) : qR (List qb) :=
  lt ((qh (Gv - Gw))) fun (Gy : Int) =>
  lt ((qh (Gx - Gv))) fun (Gz : Int) =>
  qQ.l1 K Gv K Gu Gy Gz
def qc.l3 (K : Nat) (rc : (List qb) → Int → Int → Int → qR (List qb)) (Gx : Int) : Nat → (List qb) → Int → qR (List qb)
  | 0, _, _ => .fail
  | k + 1, Gu, Gv =>
    cond (decide (Gv < (qh (Gx - (1 : Int)))))
      (
      chk (inb (qh (Gv + (1 : Int))) Gu.length) <|
      chk (inb Gv Gu.length) <|
      lt (Gu.set (Int.toNat Gv) (qb.mk ((rd Gu (qh (Gv + (1 : Int)))).often_) ((rd Gu (qh (Gv + (1 : Int)))).symbols_))) fun (Gw : (List qb)) =>
      chk (inb (qh (Gv + (1 : Int))) Gw.length) <|
      lt (Gw.set (Int.toNat (qh (Gv + (1 : Int)))) (qb.mk ((rd Gu Gv).often_) ((rd Gu Gv).symbols_))) fun (Gy : (List qb)) =>
      lt ((qh (Gv + (1 : Int)))) fun (Gz : Int) =>
      qc.l3 K rc Gx k Gy Gz)
      (
      .ok Gu)
def qc.j2 (K : Nat) (rc : (List qb) → Int → Int → Int → qR (List qb)) (Gu : List qb) (Gv : Int) (Gw : Int) : qR (List qb) :=
  qc.l3 K rc Gw K Gu Gv
def qc.l1 (K : Nat) (rc : (List qb) → Int → Int → Int → qR (List qb)) (Gu : List qb) (Gv : Int) : Nat → Int → Int → qR (List qb)
  | 0, _, _ => .fail
  | k + 1, Gx, Gy =>
    cond (decide (Gx < Gy))
      (
      lt ((wr .i64 (xC .u64 (wr .u64 (qh (Gx + Gy))) (1 : Int)))) fun (Gw : Int) =>
      chk (inb Gw Gu.length) <|
      chk (inb Gv Gu.length) <|
      (yW.m K (qb.mk ((rd Gu Gw).often_) ((rd Gu Gw).symbols_)) (qb.mk ((rd Gu Gv).often_) ((rd Gu Gv).symbols_))).bind fun Gz =>
      cond (decide (Gz < (0 : Int)))
        (
        lt ((qh (Gw + (1 : Int)))) fun (GA : Int) =>
        qc.l1 K rc Gu Gv k GA Gy)
        (
        qc.l1 K rc Gu Gv k Gx Gw))
      (
      qc.j2 K rc Gu Gv Gx)
def qc.l7 (K : Nat) (rc : (List qb) → Int → Int → Int → qR (List qb)) (Gx : Int) : Nat → (List qb) → Int → qR (List qb)
  | 0, _, _ => .fail
  | k + 1, Gu, Gv =>
    cond (decide (Gv > Gx))
      (
      chk (inb (qh (Gv - (1 : Int))) Gu.length) <|
      chk (inb Gv Gu.length) <|
      lt (Gu.set (Int.toNat Gv) (qb.mk ((rd Gu (qh (Gv - (1 : Int)))).often_) ((rd Gu (qh (Gv - (1 : Int)))).symbols_))) fun (Gw : (List qb)) =>
      chk (inb (qh (Gv - (1 : Int))) Gw.length) <|
      lt (Gw.set (Int.toNat (qh (Gv - (1 : Int)))) (qb.mk ((rd Gu Gv).often_) ((rd Gu Gv).symbols_))) fun (Gy : (List qb)) =>
      lt ((qh (Gv - (1 : Int)))) fun (Gz : Int) =>
      qc.l7 K rc Gx k Gy Gz)
      (
      .ok Gu)
def qc.j6 (K : Nat) (rc : (List qb) → Int → Int → Int → qR (List qb)) (Gu : List qb) (Gv : Int) (Gw : Int) : qR (List qb) :=
  qc.l7 K rc Gw K Gu Gv
def qc.l5 (K : Nat) (rc : (List qb) → Int → Int → Int → qR (List qb)) (Gu : List qb) (Gv : Int) : Nat → Int → Int → qR (List qb)
  | 0, _, _ => .fail
  | k + 1, Gx, Gy =>
    cond (decide (Gx < Gy))
      (
      lt ((wr .i64 (xC .u64 (wr .u64 (qh (Gx + Gy))) (1 : Int)))) fun (Gw : Int) =>
      chk (inb Gv Gu.length) <|
      chk (inb Gw Gu.length) <|
      (yW.m K (qb.mk ((rd Gu Gv).often_) ((rd Gu Gv).symbols_)) (qb.mk ((rd Gu Gw).often_) ((rd Gu Gw).symbols_))).bind fun Gz =>
      cond (!(decide (Gz < (0 : Int))))
        (
        lt ((qh (Gw + (1 : Int)))) fun (GA : Int) =>
        qc.l5 K rc Gu Gv k GA Gy)
        (
        qc.l5 K rc Gu Gv k Gx Gw))
      (
      qc.j6 K rc Gu Gv Gx)
def qc.j13 (K : Nat) (rc : (List qb) → Int → Int → Int → qR (List qb)) (Gx : Int) (Gw : Int) (Gu : Int) (Gv : (List qb)) : qR (List qb) :=
  cond ((decide (Gw < Gu)) && (decide (Gu < Gx)))
    (
    (rc Gv Gw Gu Gx).bind fun Gy =>
    .ok Gy)
    (
    .ok Gv)
def qc.j12 (K : Nat) (rc : (List qb) → Int → Int → Int → qR (List qb)) (Gy : Int) (Gz : Int) (Gv : Int) (Gu : Int) (Gw : Int) (Gx : (List qb)) : qR (List qb) :=
  cond ((decide (Gy < Gu)) && (decide (Gu < Gv)))
    (
    (rc Gx Gy Gu Gv).bind fun GA =>
    qc.j13 K rc Gz Gv Gw GA)
    (
    qc.j13 K rc Gz Gv Gw Gx)
def qc.j11 (K : Nat) (rc : (List qb) → Int → Int → Int → qR (List qb)) (Gw : List qb) (Gy : Int) (Gz : Int) (GA : Int) (Gx : Int) (GC : Int) (Gu : Int) : qR (List qb) :=
  lt ((qh (GC - Gu))) fun (Gv : Int) =>
  cond ((decide (Gu < Gz)) && (decide (Gz < Gv)))
    (
    (qQ.m K Gw Gu Gz Gv).bind fun GB =>
    qc.j12 K rc Gy GA Gx Gu Gv GB)
    (
    qc.j12 K rc Gy GA Gx Gu Gv Gw)
def qc.l10 (K : Nat) (rc : (List qb) → Int → Int → Int → qR (List qb)) (Gu : List qb) (Gz : Int) (GD : Int) (GA : Int) (Gx : Int) (GB : Int) (Gy : Int) : Nat → Int → Int → qR (List qb)
  | 0, _, _ => .fail
  | k + 1, Gw, GE =>
    cond (decide (Gw < GE))
      (
      lt ((wr .i64 (xC .u64 (wr .u64 (qh (Gw + GE))) (1 : Int)))) fun (Gv : Int) =>
      chk (inb (qh (Gy - Gv)) Gu.length) <|
      chk (inb Gv Gu.length) <|
      (yW.m K (qb.mk ((rd Gu (qh (Gy - Gv))).often_) ((rd Gu (qh (Gy - Gv))).symbols_)) (qb.mk ((rd Gu Gv).often_) ((rd Gu Gv).symbols_))).bind fun GF =>
      cond (!(decide (GF < (0 : Int))))
        (
        lt ((qh (Gv + (1 : Int)))) fun (GC : Int) =>
        qc.l10 K rc Gu Gz GD GA Gx GB Gy k GC GE)
        (
        qc.l10 K rc Gu Gz GD GA Gx GB Gy k Gw Gv))
      (
      qc.j11 K rc Gu Gz GD GA Gx GB Gw)
def qc.j9 (K : Nat) (rc : (List qb) → Int → Int → Int → qR (List qb)) (Gv : List qb) (Gy : Int) (GA : Int) (Gz : Int) (Gx : Int) (Gw : Int) (Gu : Int) (GB : Int) : qR (List qb) :=
  lt ((qh (Gw - (1 : Int)))) fun (GC : Int) =>
  qc.l10 K rc Gv Gy GA Gz Gx Gw GC K Gu GB
def qc.j8 (K : Nat) (rc : (List qb) → Int → Int → Int → qR (List qb)) (Gx : List qb) (Gv : Int) (Gy : Int) (Gw : Int) : qR (List qb) :=
  lt ((wr .i64 (xC .u64 (wr .u64 (qh (Gv + Gw))) (1 : Int)))) fun (Gu : Int) =>
  lt ((qh (Gu + Gy))) fun (Gz : Int) =>
  cond (decide (Gy > Gu))
    (
    lt ((qh (Gz - Gw))) fun (GA : Int) =>
    qc.j9 K rc Gx Gv Gy Gw Gu Gz GA Gu)
    (
    qc.j9 K rc Gx Gv Gy Gw Gu Gz Gv Gy)
def qc.j4 (K : Nat) (rc : (List qb) → Int → Int → Int → qR (List qb)) (Gu : List qb) (Gw : Int) (Gv : Int) (Gx : Int) : qR (List qb) :=
  cond ((qh (Gx - Gv)) == (1 : Int))
    (
    qc.l5 K rc Gu Gv K Gw Gv)
    (
    qc.j8 K rc Gu Gw Gv Gx)
def qc.b (K : Nat) (rc : (List qb) → Int → Int → Int → qR (List qb)) (Gu : List qb) (Gv : Int) (Gw : Int) (Gx : Int) : qR (List qb) :=
  cond ((qh (Gw - Gv)) == (1 : Int))
    (
    qc.l1 K rc Gu Gv K Gw Gx)
    (
    qc.j4 K rc Gu Gv Gw Gx)
def qc.r (K : Nat) : Nat → (List qb) → Int → Int → Int → qR (List qb)
  | 0 => fun _ _ _ _ => .fail
  | d + 1 => qc.b K (qc.r K d)
def qc.m (K : Nat) (Gu : List qb) (Gv : Int) (Gx : Int) (Gw : Int) : qR (List qb) := qc.r K K Gu Gv Gx Gw
def qk.j5 (K : Nat) (g3 : (List qb) → Int → qR (List qb)) (Gy : Int) (Gu : Int) (Gx : (List qb)) (Gz : Int) : qR (List qb) :=
  lt ((qh (Gz + Gu))) fun (GB : Int) =>
  cond (decide (GB < Gy))
    (
    (qc.m K Gx Gz GB Gy).bind fun GA =>
    lt ((qh (Gu * (2 : Int)))) fun (Gv : Int) =>
    g3 GA Gv)
    (
    lt ((qh (Gu * (2 : Int)))) fun (Gw : Int) =>
    g3 Gx Gw)
def qk.l4 (K : Nat) (g3 : (List qb) → Int → qR (List qb)) (Gx : Int) (Gu : Int) : Nat → (List qb) → Int → Int → qR (List qb)
  | 0, _, _, _ => .fail
  | k + 1, Gw, Gy, Gv =>
    cond (decide (Gv ≤ Gx))
      (
      (qc.m K Gw Gy (qh (Gy + Gu)) Gv).bind fun Gz =>
      lt ((qh (Gv + (qh ((2 : Int) * Gu))))) fun (GA : Int) =>
      qk.l4 K g3 Gx Gu k Gz Gv GA)
      (
      qk.j5 K (g3) Gx Gu Gw Gy)
def qk.l3 (K : Nat) (Gw : Int) : Nat → (List qb) → Int → qR (List qb)
  | 0, _, _ => .fail
  | k + 1, Gv, Gu =>
    cond (decide (Gu < Gw))
      (
      lt ((qh ((2 : Int) * Gu))) fun (Gx : Int) =>
      qk.l4 K (qk.l3 K Gw k) Gw Gu K Gv (0 : Int) Gx)
      (
      .ok Gv)
def qk.j2 (K : Nat) (Gu : Int) (Gv : (List qb)) (Gx : Int) : qR (List qb) :=
  (qi.m K Gv Gx Gu).bind fun Gw =>
  qk.l3 K Gu K Gw (20 : Int)
def qk.l1 (K : Nat) (Gw : Int) : Nat → (List qb) → Int → Int → qR (List qb)
  | 0, _, _, _ => .fail
  | k + 1, Gv, Gx, Gu =>
    cond (decide (Gu ≤ Gw))
      (
      (qi.m K Gv Gx Gu).bind fun Gy =>
      lt ((qh (Gu + (20 : Int)))) fun (Gz : Int) =>
      qk.l1 K Gw k Gy Gu Gz)
      (
      qk.j2 K Gw Gv Gx)
def qk.m (K : Nat) (Gu : List qb) (Gv : Int) : qR (List qb) :=
  qk.l1 K Gv K Gu (0 : Int) (20 : Int)
def zT.m (K : Nat) (Gv : List qb) : qR (List qb) :=
  (qk.m K Gv (Gv.length : Int)).bind fun Gu =>
  .ok Gu
def yM.m (K : Nat) (Gu : List qb) (Gv : List qb) : qR (List qb) :=
  (qw.m K ([Gu, Gv] : List (List qb))).bind fun Gw =>
  (zT.m K Gw).bind fun Gx =>
  .ok Gx
def qI.l8 (K : Nat) (g7 : (List Int) → Int → qR ((List Int) × Int)) (Gv : (List qb)) (Gw : Int) : Nat → (List Int) → Int → qR ((List Int) × Int)
  | 0, _, _ => .fail
  | k + 1, Gu, Gx =>
    cond (decide (Gx < (((rd Gv Gw).symbols_).length : Int)))
      (
      chk (inb Gx ((rd Gv Gw).symbols_).length) <|
      lt ((rd ((rd Gv Gw).symbols_) Gx)) fun (Gy : Int) =>
      chk (inb Gy Gu.length) <|
      lt (Gu.set (Int.toNat Gy) (qh ((rd Gu Gy) + (1 : Int)))) fun (Gz : (List Int)) =>
      qI.l8 K g7 Gv Gw k Gz (qh (Gx + (1 : Int))))
      (
      g7 Gu (qh (Gw + (1 : Int))))
def qI.l7 (K : Nat) (Gu : (List qb)) : Nat → (List Int) → Int → qR ((List Int) × Int)
  | 0, _, _ => .fail
  | k + 1, Gv, Gw =>
    cond (decide (Gw < (Gu.length : Int)))
      (
      chk (inb Gw Gu.length) <|
      qI.l8 K (qI.l7 K Gu k) Gu Gw K Gv (0 : Int))
      (
      .ok (Gv, (0 : Int)))
def qI.j6 (K : Nat) (Gv : (List Int)) (Gw : (List qb)) (Gu : (List qb)) : qR ((List Int) × Int) :=
  chk (subok (0 : Int) (qh ((qh ((2 : Int) * (Gw.length : Int))) - (2 : Int))) Gu.length) <|
  lt (sub Gu (0 : Int) (qh ((qh ((2 : Int) * (Gw.length : Int))) - (2 : Int)))) fun (Gx : (List qb)) =>
  qI.l7 K Gx K Gv (0 : Int)
def qI.l5 (K : Nat) (Gu : Int) (Gv : (List Int)) (Gx : (List qb)) : Nat → (List qb) → Int → qR ((List Int) × Int)
  | 0, _, _ => .fail
  | k + 1, Gw, Gy =>
    cond (decide (Gy < (qh (Gu - (1 : Int)))))
      (
      (xV.m K Gw).bind fun Gz =>
      (yM.m K Gx Gz).bind fun GA =>
      qI.l5 K Gu Gv Gx k GA (qh (Gy + (1 : Int))))
      (
      qI.j6 K Gv Gx Gw)
def qI.j4 (K : Nat) (Gw : Int) (Gu : (List qb)) (Gv : (List Int)) : qR ((List Int) × Int) :=
  cond (decide ((Gu.length : Int) < (2 : Int)))
    (
    .ok (Gv, (0 : Int)))
    (
    (zn.m K Gu).bind fun Gx =>
    qI.l5 K Gw Gv Gx K Gx (0 : Int))
def qI.j3 (K : Nat) (Gw : List Int) (Gv : Int) (Gu : (List qb)) : qR ((List Int) × Int) :=
  chk (decide (0 ≤ Gv)) <|
  cond (decide ((Gu.length : Int) > (xz .i64 (1 : Int) Gv)))
    (
    .ok (([] : List Int), (1 : Int)))
    (
    chk (decide (0 ≤ (Gw.length : Int)) && room (Int.toNat (Gw.length : Int)) 8) <|
    lt (List.replicate (Int.toNat (Gw.length : Int)) (0 : Int)) fun (Gx : (List Int)) =>
    cond ((Gu.length : Int) == (1 : Int))
      (
      chk (inb (0 : Int) Gu.length) <|
      chk (inb (0 : Int) ((rd Gu (0 : Int)).symbols_).length) <|
      chk (inb (rd ((rd Gu (0 : Int)).symbols_) (0 : Int)) Gx.length) <|
      lt (Gx.set (Int.toNat (rd ((rd Gu (0 : Int)).symbols_) (0 : Int))) (1 : Int)) fun (Gy : (List Int)) =>
      qI.j4 K Gv Gu Gy)
      (
      qI.j4 K Gv Gu Gx))
def qI.l2 (K : Nat) (Gu : List Int) (Gw : Int) : Nat → (List qb) → Int → qR ((List Int) × Int)
  | 0, _, _ => .fail
  | k + 1, Gv, Gx =>
    cond (decide (Gx < (Gu.length : Int)))
      (
      chk (inb Gx Gu.length) <|
      lt ((rd Gu Gx)) fun (Gy : Int) =>
      cond (decide (Gy > (0 : Int)))
        (
        chk (room (Gv.length + ([(qb.mk Gy ([Gx] : List Int))] : List qb).length) 32) <|
        lt (Gv ++ ([(qb.mk Gy ([Gx] : List Int))] : List qb)) fun (Gz : (List qb)) =>
        qI.l2 K Gu Gw k Gz (qh (Gx + (1 : Int))))
        (
        qI.l2 K Gu Gw k Gv (qh (Gx + (1 : Int)))))
      (
      qI.j3 K Gu Gw Gv)
def qI.j1 (K : Nat) (Gu : List Int) (Gv : Int) (Gw : Bool) : qR ((List Int) × Int) :=
  cond Gw
    (
    .ok (([] : List Int), (1 : Int)))
    (
    qI.l2 K Gu Gv K ([] : List qb) (0 : Int))
def qI.m (K : Nat) (Gu : List Int) (Gv : Int) : qR ((List Int) × Int) :=
  cond (((decide (Gv < (1 : Int))) || (decide (Gv > (15 : Int)))) || (decide ((Gu.length : Int) > (320 : Int))))
    (
    qI.j1 K Gu Gv true)
    (
    (xA.m K Gu).bind fun Gw =>
    qI.j1 K Gu Gv Gw)
def q9.j4 (K : Nat)  (Gu : (List Int)) : qR ((List Int) × (List Int)) :=
  (qI.m K Gu (15 : Int)).bind fun (Gv, Gw) =>
  .ok (Gv, Gu)
def q9.l3 (K : Nat)  : Nat → (List Int) → Int → Int → qR ((List Int) × (List Int))
  | 0, _, _, _ => .fail
  | k + 1, Gu, Gw, Gv =>
    cond (decide (Gw < (2 : Int)))
      (
      chk (inb Gv Gu.length) <|
      cond ((rd Gu Gv) == (0 : Int))
        (
        lt (Gu.set (Int.toNat Gv) (qh ((rd Gu Gv) + (1 : Int)))) fun (Gx : (List Int)) =>
        lt ((qh (Gw + (1 : Int)))) fun (Gy : Int) =>
        lt ((qh (Gv + (1 : Int)))) fun (Gz : Int) =>
        q9.l3 K k Gx Gy Gz)
        (
        lt ((qh (Gv + (1 : Int)))) fun (GA : Int) =>
        q9.l3 K k Gu Gw GA))
      (
      q9.j4 K Gu)
def q9.j2 (K : Nat) (Gu : List Int) (Gv : Int) : qR ((List Int) × (List Int)) :=
  q9.l3 K K Gu Gv (0 : Int)
def q9.l1 (K : Nat) (Gu : List Int) : Nat → Int → Int → qR ((List Int) × (List Int))
  | 0, _, _ => .fail
  | k + 1, Gw, Gv =>
    cond (decide (Gv < (Gu.length : Int)))
      (
      chk (inb Gv Gu.length) <|
      lt ((rd Gu Gv)) fun (Gx : Int) =>
      lt ((qh (Gw + (if (1 : Int) < Gx then (1 : Int) else Gx)))) fun (Gy : Int) =>
      q9.l1 K Gu k Gy (qh (Gv + (1 : Int))))
      (
      q9.j2 K Gu Gw)
def q9.m (K : Nat) (Gu : List Int) : qR ((List Int) × (List Int)) :=
  q9.l1 K Gu K (0 : Int) (0 : Int)
def qT.j4 (K : Nat) (g1 : (List ql) → Int → qR (List ql)) (Gw : List Int) (Gu : (List ql)) (Gx : Int) (Gv : Int) : qR (List ql) :=
  chk (inb Gx Gw.length) <|
  lt ((((rd Gw Gx) == (0 : Int)) && (decide (Gv ≥ (11 : Int))))) fun (GE : Bool) =>
  cond GE
    (
    lt ((if (138 : Int) < Gv then (138 : Int) else Gv)) fun (Gy : Int) =>
    chk (room (Gu.length + ([(ql.mk (18 : Int) (qh (Gy - (11 : Int))) (7 : Int))] : List ql).length) 24) <|
    lt (Gu ++ ([(ql.mk (18 : Int) (qh (Gy - (11 : Int))) (7 : Int))] : List ql)) fun (GA : (List ql)) =>
    lt ((qh (Gx + Gy))) fun (GF : Int) =>
    g1 GA GF)
    (
    lt ((((rd Gw Gx) == (0 : Int)) && (decide (Gv ≥ (3 : Int))))) fun (GG : Bool) =>
    cond GG
      (
      chk (room (Gu.length + ([(ql.mk (17 : Int) (qh (Gv - (3 : Int))) (3 : Int))] : List ql).length) 24) <|
      lt (Gu ++ ([(ql.mk (17 : Int) (qh (Gv - (3 : Int))) (3 : Int))] : List ql)) fun (GB : (List ql)) =>
      lt ((qh (Gx + Gv))) fun (GH : Int) =>
      g1 GB GH)
      (
      lt ((decide (Gv ≥ (4 : Int)))) fun (GI : Bool) =>
      cond GI
        (
        lt ((if (7 : Int) < Gv then (7 : Int) else Gv)) fun (Gz : Int) =>
        chk (room (Gu.length + ([(ql.mk (rd Gw Gx) (0 : Int) (0 : Int)), (ql.mk (16 : Int) (qh (Gz - (4 : Int))) (2 : Int))] : List ql).length) 24) <|
        lt (Gu ++ ([(ql.mk (rd Gw Gx) (0 : Int) (0 : Int)), (ql.mk (16 : Int) (qh (Gz - (4 : Int))) (2 : Int))] : List ql)) fun (GC : (List ql)) =>
        lt ((qh (Gx + Gz))) fun (GJ : Int) =>
        g1 GC GJ)
        (
        chk (room (Gu.length + ([(ql.mk (rd Gw Gx) (0 : Int) (0 : Int))] : List ql).length) 24) <|
        lt (Gu ++ ([(ql.mk (rd Gw Gx) (0 : Int) (0 : Int))] : List ql)) fun (GD : (List ql)) =>
        lt ((qh (Gx + (1 : Int)))) fun (GK : Int) =>
        g1 GD GK)))
def qT.j3 (K : Nat) (g1 : (List ql) → Int → qR (List ql)) (g2 : Int → qR (List ql)) (Gv : List Int) (Gw : (List ql)) (Gy : Int) (Gu : Int) (Gz : Bool) : qR (List ql) :=
  cond Gz
    (
    lt ((qh (Gu + (1 : Int)))) fun (Gx : Int) =>
    g2 Gx)
    (
    qT.j4 K (g1) Gv Gw Gy Gu)
def qT.l2 (K : Nat) (g1 : (List ql) → Int → qR (List ql)) (Gu : List Int) (Gw : (List ql)) (Gv : Int) : Nat → Int → qR (List ql)
  | 0, _ => .fail
  | k + 1, Gx =>
    cond (decide ((qh (Gv + Gx)) < (Gu.length : Int)))
      (
      chk (inb (qh (Gv + Gx)) Gu.length) <|
      chk (inb Gv Gu.length) <|
      qT.j3 K (g1) (qT.l2 K g1 Gu Gw Gv k) Gu Gw Gv Gx ((rd Gu (qh (Gv + Gx))) == (rd Gu Gv)))
      (
      qT.j3 K (g1) (qT.l2 K g1 Gu Gw Gv k) Gu Gw Gv Gx false)
def qT.l1 (K : Nat) (Gu : List Int) : Nat → (List ql) → Int → qR (List ql)
  | 0, _, _ => .fail
  | k + 1, Gv, Gw =>
    cond (decide (Gw < (Gu.length : Int)))
      (
      qT.l2 K (qT.l1 K Gu k) Gu Gv Gw K (1 : Int))
      (
      .ok Gv)
def qT.m (K : Nat) (Gu : List Int) : qR (List ql) :=
  qT.l1 K Gu K ([] : List ql) (0 : Int)
def zR.l1 (K : Nat) (Gv : qt) (Gw : qx) (GA : Int) : Nat → Int → (List Int) → Int → qR (Int × (List Int))
  | 0, _, _, _ => .fail
  | k + 1, Gx, Gu, Gy =>
    cond (decide (Gy ≥ (0 : Int)))
      (
      chk (inb GA Gw.codes_.length) <|
      chk (decide (0 ≤ Gy)) <|
      (qs.m K (qt.mk (qW.mk (q8.mk Gx) Gu) Gv.literals_ Gv.distances_) (wr .u32 (x8 .i64 (xC .i64 (rd Gw.codes_ GA) Gy) (1 : Int))) (1 : Int)).bind fun (GD, GB, Gz) =>
      lt ((qh (Gy - (1 : Int)))) fun (GC : Int) =>
      zR.l1 K Gv Gw GA k GB Gz GC)
      (
      .ok (Gx, Gu))
def zR.m (K : Nat) (Gu : qt) (Gv : qx) (Gw : Int) : qR (Int × (List Int)) :=
  chk (inb Gw Gv.lengths_.length) <|
  lt ((qh ((rd Gv.lengths_ Gw) - (1 : Int)))) fun (Gx : Int) =>
  zR.l1 K Gu Gv Gw K Gu.Writer_.place_.at_ Gu.Writer_.bytes_ Gx
def qj.j12 (K : Nat) (GC : List qr) (GA : (List Int)) (Gu : (List Int)) (GB : (List Int)) (Gv : (List Int)) (Gy : Int) (Gw : (List Int)) : qR ((List UInt8) × Int) :=
  (zt.m K (qt.mk (qW.mk (q8.mk Gy) Gw) (qx.mk GA Gu) (qx.mk GB Gv)) GC).bind fun (Gz, Gx) =>
  (z3.m K (qt.mk (qW.mk (q8.mk Gz) Gx) (qx.mk GA Gu) (qx.mk GB Gv))).bind fun GD =>
  .ok (GD, (0 : Int))
def qj.l11 (K : Nat) (GF : List qr) (GA : (List Int)) (Gu : (List Int)) (GB : (List Int)) (Gv : (List Int)) (Gw : (List ql)) (GI : (List Int)) (Gx : (List Int)) : Nat → Int → (List Int) → Int → qR ((List UInt8) × Int)
  | 0, _, _, _ => .fail
  | k + 1, GC, Gy, Gz =>
    cond (decide (Gz < (Gw.length : Int)))
      (
      chk (inb Gz Gw.length) <|
      (zR.m K (qt.mk (qW.mk (q8.mk GC) Gy) (qx.mk GA Gu) (qx.mk GB Gv)) (qx.mk GI Gx) ((rd Gw Gz).symbol_)).bind fun (GG, GD) =>
      (qs.m K (qt.mk (qW.mk (q8.mk GG) GD) (qx.mk GA Gu) (qx.mk GB Gv)) (wr .u32 (rd Gw Gz).more_) ((rd Gw Gz).bits_)).bind fun (GJ, GH, GE) =>
      qj.l11 K GF GA Gu GB Gv Gw GI Gx k GH GE (qh (Gz + (1 : Int))))
      (
      qj.j12 K GF GA Gu GB Gv GC Gy)
def qj.j10 (K : Nat) (Gz : List qr) (GA : (List Int)) (Gu : (List Int)) (GB : (List Int)) (Gv : (List Int)) (GC : (List ql)) (GD : (List Int)) (Gw : (List Int)) (Gy : Int) (Gx : (List Int)) : qR ((List UInt8) × Int) :=
  qj.l11 K Gz GA Gu GB Gv GC GD Gw K Gy Gx (0 : Int)
def qj.l9 (K : Nat) (GC : List qr) (GD : (List Int)) (Gu : (List Int)) (GE : (List Int)) (Gv : (List Int)) (GG : (List ql)) (Gy : (List Int)) (Gw : (List Int)) : Nat → Int → (List Int) → Int → qR ((List UInt8) × Int)
  | 0, _, _, _ => .fail
  | k + 1, Gz, Gx, GA =>
    cond (decide (GA < (19 : Int)))
      (
      chk (inb GA 19) <|
      lt ((rd tab_deflate_order GA)) fun (GH : Int) =>
      chk (inb GH Gy.length) <|
      (qs.m K (qt.mk (qW.mk (q8.mk Gz) Gx) (qx.mk GD Gu) (qx.mk GE Gv)) (wr .u32 (rd Gy GH)) (3 : Int)).bind fun (GI, GF, GB) =>
      qj.l9 K GC GD Gu GE Gv GG Gy Gw k GF GB (qh (GA + (1 : Int))))
      (
      qj.j10 K GC GD Gu GE Gv GG Gy Gw Gz Gx)
def qj.j8 (K : Nat) (GJ : List qr) (Gw : (List Int)) (Gu : (List Int)) (Gx : (List Int)) (Gv : (List Int)) (GK : (List ql)) (Gy : (List Int)) : qR ((List UInt8) × Int) :=
  (qI.m K Gy (7 : Int)).bind fun (GI, GL) =>
  (yg.m K GI).bind fun Gz =>
  (qs.m K (qt.mk (qW.mk (q8.mk (0 : Int)) ([] : List Int)) (qx.mk Gw Gu) (qx.mk Gx Gv)) (5 : Int) (3 : Int)).bind fun (GM, GE, GA) =>
  (qs.m K (qt.mk (qW.mk (q8.mk GE) GA) (qx.mk Gw Gu) (qx.mk Gx Gv)) (29 : Int) (5 : Int)).bind fun (GN, GF, GB) =>
  (qs.m K (qt.mk (qW.mk (q8.mk GF) GB) (qx.mk Gw Gu) (qx.mk Gx Gv)) (29 : Int) (5 : Int)).bind fun (GO, GG, GC) =>
  (qs.m K (qt.mk (qW.mk (q8.mk GG) GC) (qx.mk Gw Gu) (qx.mk Gx Gv)) (15 : Int) (4 : Int)).bind fun (GP, GH, GD) =>
  qj.l9 K GJ Gw Gu Gx Gv GK GI Gz K GH GD (0 : Int)
def qj.j7 (K : Nat) (Gx : List qr) (Gz : (List Int)) (Gv : (List Int)) (GA : (List Int)) (Gw : (List Int)) (GB : (List ql)) (Gu : (List Int)) (GC : Int) : qR ((List UInt8) × Int) :=
  cond (decide (GC < (2 : Int)))
    (
    chk (inb (0 : Int) Gu.length) <|
    chk (inb (1 : Int) Gu.length) <|
    lt (Gu.set (Int.toNat (0 : Int)) (if (1 : Int) > (rd Gu (0 : Int)) then (1 : Int) else (rd Gu (0 : Int)))) fun (Gy : (List Int)) =>
    chk (inb (1 : Int) Gy.length) <|
    lt (Gy.set (Int.toNat (1 : Int)) (if (1 : Int) > (rd Gu (1 : Int)) then (1 : Int) else (rd Gu (1 : Int)))) fun (GD : (List Int)) =>
    qj.j8 K Gx Gz Gv GA Gw GB GD)
    (
    qj.j8 K Gx Gz Gv GA Gw GB Gu)
def qj.l6 (K : Nat) (Gy : List qr) (GB : (List Int)) (Gv : (List Int)) (GC : (List Int)) (Gw : (List Int)) (GD : (List ql)) (Gu : (List Int)) : Nat → Int → Int → qR ((List UInt8) × Int)
  | 0, _, _ => .fail
  | k + 1, Gz, Gx =>
    cond (decide (Gx < (Gu.length : Int)))
      (
      chk (inb Gx Gu.length) <|
      lt ((rd Gu Gx)) fun (GA : Int) =>
      lt ((qh (Gz + (if (1 : Int) < GA then (1 : Int) else GA)))) fun (GE : Int) =>
      qj.l6 K Gy GB Gv GC Gw GD Gu k GE (qh (Gx + (1 : Int))))
      (
      qj.j7 K Gy GB Gv GC Gw GD Gu Gz)
def qj.j5 (K : Nat) (Gx : List qr) (Gy : (List Int)) (Gu : (List Int)) (Gz : (List Int)) (Gv : (List Int)) (GA : (List ql)) (Gw : (List Int)) : qR ((List UInt8) × Int) :=
  qj.l6 K Gx Gy Gu Gz Gv GA Gw K (0 : Int) (0 : Int)
def qj.l4 (K : Nat) (Gz : List qr) (GA : (List Int)) (Gw : (List Int)) (GB : (List Int)) (Gx : (List Int)) (Gv : (List ql)) : Nat → (List Int) → Int → qR ((List UInt8) × Int)
  | 0, _, _ => .fail
  | k + 1, Gu, Gy =>
    cond (decide (Gy < (Gv.length : Int)))
      (
      chk (inb Gy Gv.length) <|
      chk (inb (rd Gv Gy).symbol_ Gu.length) <|
      lt (Gu.set (Int.toNat (rd Gv Gy).symbol_) (qh ((rd Gu (rd Gv Gy).symbol_) + (1 : Int)))) fun (GC : (List Int)) =>
      qj.l4 K Gz GA Gw GB Gx Gv k GC (qh (Gy + (1 : Int))))
      (
      qj.j5 K Gz GA Gw GB Gx Gv Gu)
def qj.j3 (K : Nat) (GB : List qr) (Gv : (List Int)) (Gu : (List Int)) : qR ((List UInt8) × Int) :=
  (q9.m K Gv).bind fun (Gw, GE) =>
  (yg.m K Gw).bind fun Gy =>
  (q9.m K Gu).bind fun (Gx, GF) =>
  (yg.m K Gx).bind fun Gz =>
  chk (room (([] : List Int).length + Gw.length) 8) <|
  lt (([] : List Int) ++ Gw) fun (GA : (List Int)) =>
  chk (room (GA.length + Gx.length) 8) <|
  lt (GA ++ Gx) fun (GC : (List Int)) =>
  (qT.m K GC).bind fun GG =>
  chk (decide (0 ≤ (19 : Int)) && room (Int.toNat (19 : Int)) 8) <|
  lt (List.replicate (Int.toNat (19 : Int)) (0 : Int)) fun (GD : (List Int)) =>
  qj.l4 K GB Gw Gy Gx Gz GG K GD (0 : Int)
def qj.l2 (K : Nat) (Gw : List qr) : Nat → (List Int) → (List Int) → Int → qR ((List UInt8) × Int)
  | 0, _, _, _ => .fail
  | k + 1, Gu, Gv, Gx =>
    cond (decide (Gx < (Gw.length : Int)))
      (
      chk (inb Gx Gw.length) <|
      cond ((rd Gw Gx).Dist_ == (0 : Int))
        (
        chk (inb (rd Gw Gx).Lit_ Gu.length) <|
        lt (Gu.set (Int.toNat (rd Gw Gx).Lit_) (qh ((rd Gu (rd Gw Gx).Lit_) + (1 : Int)))) fun (GA : (List Int)) =>
        qj.l2 K Gw k GA Gv (qh (Gx + (1 : Int))))
        (
        (yI.m K ((rd Gw Gx).Len_)).bind fun (Gy, GD, GE) =>
        chk (inb Gy Gu.length) <|
        lt (Gu.set (Int.toNat Gy) (qh ((rd Gu Gy) + (1 : Int)))) fun (GB : (List Int)) =>
        (yv.m K ((rd Gw Gx).Dist_)).bind fun (Gz, GF, GG) =>
        chk (inb Gz Gv.length) <|
        lt (Gv.set (Int.toNat Gz) (qh ((rd Gv Gz) + (1 : Int)))) fun (GC : (List Int)) =>
        qj.l2 K Gw k GB GC (qh (Gx + (1 : Int)))))
      (
      qj.j3 K Gw Gu Gv)
def qj.j1 (K : Nat) (Gw : List qr) (Gu : (List Int)) (Gv : (List Int)) : qR ((List UInt8) × Int) :=
  chk (inb (256 : Int) Gu.length) <|
  lt (Gu.set (Int.toNat (256 : Int)) (qh ((rd Gu (256 : Int)) + (1 : Int)))) fun (Gx : (List Int)) =>
  qj.l2 K Gw K Gx Gv (0 : Int)
def qj.m (K : Nat) (Gu : List qr) : qR ((List UInt8) × Int) :=
  (jd.m K Gu).bind fun Gx =>
  cond (!Gx)
    (
    .ok (([] : List UInt8), (1 : Int)))
    (
    chk (decide (0 ≤ (286 : Int)) && room (Int.toNat (286 : Int)) 8) <|
    lt (List.replicate (Int.toNat (286 : Int)) (0 : Int)) fun (Gv : (List Int)) =>
    chk (decide (0 ≤ (30 : Int)) && room (Int.toNat (30 : Int)) 8) <|
    lt (List.replicate (Int.toNat (30 : Int)) (0 : Int)) fun (Gw : (List Int)) =>
    qj.j1 K Gu Gv Gw)
def xf.j2 (K : Nat) (g1 : (List UInt8) → (List Int) → qR (List UInt8)) (Gv : List UInt8) (Gx : (List Int)) (Gu : Int) (Gw : Int) : qR (List UInt8) :=
  chk (room (Gx.length + ([Gw, (wr .u8 Gu), (wr .u8 (xC .i64 Gu (8 : Int))), (ZG .u8 (wr .u8 Gu)), (ZG .u8 (wr .u8 (xC .i64 Gu (8 : Int))))] : List Int).length) 1) <|
  lt (Gx ++ ([Gw, (wr .u8 Gu), (wr .u8 (xC .i64 Gu (8 : Int))), (ZG .u8 (wr .u8 Gu)), (ZG .u8 (wr .u8 (xC .i64 Gu (8 : Int))))] : List Int)) fun (Gy : (List Int)) =>
  chk (subok (0 : Int) Gu Gv.length) <|
  chk (room (Gy.length + (sub Gv (0 : Int) Gu).length) 1) <|
  lt (Gy ++ (sub Gv (0 : Int) Gu).map B7) fun (Gz : (List Int)) =>
  chk (subok Gu (Gv.length : Int) Gv.length) <|
  lt ((sub Gv Gu (Gv.length : Int))) fun (GA : List UInt8) =>
  cond (Gw == (1 : Int))
    (
    lt ((Gz.map ZX)) fun (GB : List UInt8) =>
    .ok GB)
    (
    g1 GA Gz)
def xf.l1 (K : Nat)  : Nat → (List UInt8) → (List Int) → qR (List UInt8)
  | 0, _, _ => .fail
  | k + 1, Gu, Gw =>
    lt ((if (Gu.length : Int) < (65535 : Int) then (Gu.length : Int) else (65535 : Int))) fun (Gv : Int) =>
    cond (Gv == (Gu.length : Int))
      (
      xf.j2 K (xf.l1 K k) Gu Gw Gv (1 : Int))
      (
      xf.j2 K (xf.l1 K k) Gu Gw Gv (0 : Int))
def xf.m (K : Nat) (Gu : List UInt8) : qR (List UInt8) :=
  xf.l1 K K Gu ([] : List Int)
def jr.m (K : Nat) (Gu : xn) (Gv : Int) : qR Unit :=
  chk (inb Gv Gu.text_.length) <|
  chk (inb (qh (Gv + (1 : Int))) Gu.text_.length) <|
  chk (inb (qh (Gv + (2 : Int))) Gu.text_.length) <|
  .ok ()
def zY.j2 (K : Nat) (g1 : Int → qR Int) (Gu : Int) (Gw : Bool) : qR Int :=
  cond Gw
    (
    lt ((qh (Gu + (1 : Int)))) fun (Gv : Int) =>
    g1 Gv)
    (
    .ok Gu)
def zY.l1 (K : Nat) (Gv : xn) (Gx : Int) (Gw : Int) : Nat → Int → qR Int
  | 0, _ => .fail
  | k + 1, Gu =>
    cond (decide (Gu < (258 : Int)))
      (
      cond (decide ((qh (Gw + Gu)) < (Gv.text_.length : Int)))
        (
        chk (inb (qh (Gx + Gu)) Gv.text_.length) <|
        chk (inb (qh (Gw + Gu)) Gv.text_.length) <|
        zY.j2 K (zY.l1 K Gv Gx Gw k) Gu (((rd Gv.text_ (qh (Gx + Gu))).toNat : Int) == ((rd Gv.text_ (qh (Gw + Gu))).toNat : Int)))
        (
        zY.j2 K (zY.l1 K Gv Gx Gw k) Gu false))
      (
      zY.j2 K (zY.l1 K Gv Gx Gw k) Gu false)
def zY.m (K : Nat) (Gu : xn) (Gv : Int) (Gw : Int) : qR Int :=
  zY.l1 K Gu Gv Gw K (0 : Int)
def xd.j2 (K : Nat)  (Gv : Int) (Gu : Int) : qR (Int × Int) :=
  .ok (Gv, Gu)
def xd.l1 (K : Nat) (Gz : xn) (Gy : Int) (Gv : (List Int)) : Nat → Int → Int → Int → qR (Int × Int)
  | 0, _, _, _ => .fail
  | k + 1, Gw, Gx, Gu =>
    cond ((decide (Gu < (32 : Int))) && (decide (Gu < (Gv.length : Int))))
      (
      chk (inb (qh ((qh ((Gv.length : Int) - (1 : Int))) - Gu)) Gv.length) <|
      lt ((rd Gv (qh ((qh ((Gv.length : Int) - (1 : Int))) - Gu)))) fun (GC : Int) =>
      cond (decide ((qh (Gy - GC)) > (32768 : Int)))
        (
        xd.j2 K Gw Gx)
        (
        (zY.m K Gz GC Gy).bind fun GD =>
        cond (decide (GD > Gw))
          (
          lt ((qh (Gu + (1 : Int)))) fun (GA : Int) =>
          xd.l1 K Gz Gy Gv k GD (qh (Gy - GC)) GA)
          (
          lt ((qh (Gu + (1 : Int)))) fun (GB : Int) =>
          xd.l1 K Gz Gy Gv k Gw Gx GB)))
      (
      xd.j2 K Gw Gx)
def xd.m (K : Nat) (Gu : xn) (Gv : Int) : qR (Int × Int) :=
  cond (decide ((qh (Gv + (3 : Int))) > (Gu.text_.length : Int)))
    (
    .ok ((0 : Int), (0 : Int)))
    (
    (jr.m K Gu Gv).bind fun _ =>
    lt (QV Gu.seen_ ([((rd Gu.text_ Gv).toNat : Int), ((rd Gu.text_ (qh (Gv + (1 : Int)))).toNat : Int), ((rd Gu.text_ (qh (Gv + (2 : Int)))).toNat : Int)] : List Int)) fun (Gw : (List Int)) =>
    xd.l1 K Gu Gv Gw K (0 : Int) (0 : Int) (0 : Int))
def jH.m (K : Nat) (Gu : xn) (Gv : Int) : qR (List ((List Int) × (List Int))) :=
  cond (decide ((qh (Gv + (3 : Int))) ≤ (Gu.text_.length : Int)))
    (
    (jr.m K Gu Gv).bind fun _ =>
    lt (QV Gu.seen_ ([((rd Gu.text_ Gv).toNat : Int), ((rd Gu.text_ (qh (Gv + (1 : Int)))).toNat : Int), ((rd Gu.text_ (qh (Gv + (2 : Int)))).toNat : Int)] : List Int)) fun (Gw : (List Int)) =>
    chk (room (Gw.length + ([Gv] : List Int).length) 8) <|
    lt (Gw ++ ([Gv] : List Int)) fun (Gx : (List Int)) =>
    lt (XM Gu.seen_ ([((rd Gu.text_ Gv).toNat : Int), ((rd Gu.text_ (qh (Gv + (1 : Int)))).toNat : Int), ((rd Gu.text_ (qh (Gv + (2 : Int)))).toNat : Int)] : List Int) Gx) fun (Gy : (List ((List Int) × (List Int)))) =>
    .ok Gy)
    (
    .ok Gu.seen_)
def xr.l3 (K : Nat) (g1 : (List ((List Int) × (List Int))) → (List qr) → Int → qR (List qr)) (Gz : List UInt8) (Gu : Int) (Gw : (List qr)) : Nat → (List ((List Int) × (List Int))) → Int → Int → qR (List qr)
  | 0, _, _, _ => .fail
  | k + 1, Gv, Gx, GA =>
    cond (decide (GA < (if Gu > (1 : Int) then Gu else (1 : Int))))
      (
      (jH.m K (xn.mk Gz Gv) Gx).bind fun Gy =>
      lt ((qh (Gx + (1 : Int)))) fun (GB : Int) =>
      xr.l3 K g1 Gz Gu Gw k Gy GB (qh (GA + (1 : Int))))
      (
      g1 Gv Gw Gx)
def xr.j2 (K : Nat) (g1 : (List ((List Int) × (List Int))) → (List qr) → Int → qR (List qr)) (GA : List UInt8) (Gx : (List ((List Int) × (List Int)))) (Gy : (List qr)) (GB : Int) (Gw : Int) (Gu : Int) (Gv : Int) : qR (List qr) :=
  chk (room (Gy.length + ([(qr.mk Gw Gu Gv)] : List qr).length) 24) <|
  lt (Gy ++ ([(qr.mk Gw Gu Gv)] : List qr)) fun (Gz : (List qr)) =>
  xr.l3 K (g1) GA Gu Gz K Gx GB (0 : Int)
def xr.l1 (K : Nat) (Gu : List UInt8) : Nat → (List ((List Int) × (List Int))) → (List qr) → Int → qR (List qr)
  | 0, _, _, _ => .fail
  | k + 1, Gv, Gx, Gw =>
    cond (decide (Gw < (Gu.length : Int)))
      (
      (xd.m K (xn.mk Gu Gv) Gw).bind fun (Gy, Gz) =>
      cond (decide (Gy < (3 : Int)))
        (
        chk (inb Gw Gu.length) <|
        xr.j2 K (xr.l1 K Gu k) Gu Gv Gx Gw ((rd Gu Gw).toNat : Int) (0 : Int) (0 : Int))
        (
        xr.j2 K (xr.l1 K Gu k) Gu Gv Gx Gw (0 : Int) Gy Gz))
      (
      .ok Gx)
def xr.m (K : Nat) (Gu : List UInt8) : qR (List qr) :=
  xr.l1 K Gu K ([] : List ((List Int) × (List Int))) ([] : List qr) (0 : Int)
def xU.j1 (K : Nat) (Gw : (List qr)) (Gu : List UInt8) : qR (List UInt8) :=
  (qj.m K Gw).bind fun (Gv, Gx) =>
  cond ((Gx == (0 : Int)) && (decide ((Gv.length : Int) < (Gu.length : Int))))
    (
    .ok Gv)
    (
    .ok Gu)
def xU.m (K : Nat) (Gv : List UInt8) : qR (List UInt8) :=
  (xr.m K Gv).bind fun Gu =>
  (xf.m K Gv).bind fun Gw =>
  (jo.m K Gu).bind fun (Gx, Gy) =>
  cond ((Gy == (0 : Int)) && (decide ((Gx.length : Int) < (Gw.length : Int))))
    (
    xU.j1 K Gu Gx)
    (
    xU.j1 K Gu Gw)
def z6.j1 (K : Nat)  (Gu : Bool) : qR Bool :=
  .ok Gu
def z6.m (K : Nat) : qR Bool :=
  (jo.m K ([(qr.mk (97 : Int) (0 : Int) (0 : Int))] : List qr)).bind fun (Gu, Gv) =>
  (qj.m K ([(qr.mk (0 : Int) (1 : Int) (0 : Int))] : List qr)).bind fun (Gz, Gw) =>
  (xf.m K ([] : List UInt8)).bind fun Gx =>
  cond ((((Gx == ([1, 0, 0, 255, 255] : List UInt8)) && (Gu == ([75, 4, 0] : List UInt8))) && (Gv == (0 : Int))) && (Gw == (1 : Int)))
    (
    (xU.m K ([] : List UInt8)).bind fun Gy =>
    z6.j1 K (!(Gy == ([] : List UInt8))))
    (
    z6.j1 K false)
def zC.l3 (K : Nat) (Gv : (List Int)) : Nat → (List Int) → Int → qR ((List Int) × (List Int))
  | 0, _, _ => .fail
  | k + 1, Gw, Gu =>
    cond (decide (Gu < (32 : Int)))
      (
      chk (inb Gu Gw.length) <|
      lt (Gw.set (Int.toNat Gu) (5 : Int)) fun (Gx : (List Int)) =>
      lt ((qh (Gu + (1 : Int)))) fun (Gy : Int) =>
      zC.l3 K Gv k Gx Gy)
      (
      .ok (Gv, Gw))
def zC.j2 (K : Nat)  (Gu : (List Int)) : qR ((List Int) × (List Int)) :=
  chk (decide (0 ≤ (32 : Int)) && room (Int.toNat (32 : Int)) 8) <|
  lt (List.replicate (Int.toNat (32 : Int)) (0 : Int)) fun (Gv : (List Int)) =>
  zC.l3 K Gu K Gv (0 : Int)
def zC.l1 (K : Nat)  : Nat → (List Int) → Int → qR ((List Int) × (List Int))
  | 0, _, _ => .fail
  | k + 1, Gv, Gu =>
    cond (decide (Gu < (288 : Int)))
      (
      lt (((decide (Gu < (144 : Int))) || (decide (Gu > (279 : Int))))) fun (Gz : Bool) =>
      cond Gz
        (
        chk (inb Gu Gv.length) <|
        lt (Gv.set (Int.toNat Gu) (8 : Int)) fun (Gw : (List Int)) =>
        lt ((qh (Gu + (1 : Int)))) fun (GA : Int) =>
        zC.l1 K k Gw GA)
        (
        lt ((decide (Gu < (256 : Int)))) fun (GB : Bool) =>
        cond GB
          (
          chk (inb Gu Gv.length) <|
          lt (Gv.set (Int.toNat Gu) (9 : Int)) fun (Gx : (List Int)) =>
          lt ((qh (Gu + (1 : Int)))) fun (GC : Int) =>
          zC.l1 K k Gx GC)
          (
          chk (inb Gu Gv.length) <|
          lt (Gv.set (Int.toNat Gu) (7 : Int)) fun (Gy : (List Int)) =>
          lt ((qh (Gu + (1 : Int)))) fun (GD : Int) =>
          zC.l1 K k Gy GD)))
      (
      zC.j2 K Gv)
def zC.m (K : Nat) : qR ((List Int) × (List Int)) :=
  chk (decide (0 ≤ (288 : Int)) && room (Int.toNat (288 : Int)) 8) <|
  lt (List.replicate (Int.toNat (288 : Int)) (0 : Int)) fun (Gu : (List Int)) =>
  zC.l1 K K Gu (0 : Int)
def qP.j4 (K : Nat) (Gu : Int) (Gv : Bool) : qR Int :=
  cond (Gv || (Gu == (32768 : Int)))
    (
    .ok (0 : Int))
    (
    .ok (3 : Int))
def qP.j3 (K : Nat) (Gu : Int) (Gv : Bool) : qR Int :=
  qP.j4 K Gu Gv
def qP.j2 (K : Nat)  (Gu : Int) (Gv : Int) (Gw : Int) : qR Int :=
  cond (Gv == (0 : Int))
    (
    qP.j4 K Gu true)
    (
    cond (Gv == (1 : Int))
      (
      qP.j3 K Gu (Gw == (1 : Int)))
      (
      qP.j3 K Gu false))
def qP.l1 (K : Nat) (Gu : List Int) : Nat → Int → Int → Int → Int → qR Int
  | 0, _, _, _, _ => .fail
  | k + 1, Gw, Gy, Gx, Gv =>
    cond (decide (Gv < (Gu.length : Int)))
      (
      chk (inb Gv Gu.length) <|
      cond ((decide ((rd Gu Gv) < (0 : Int))) || (decide ((rd Gu Gv) > (15 : Int))))
        (
        .ok (1 : Int))
        (
        cond (decide ((rd Gu Gv) > (0 : Int)))
          (
          chk (decide (0 ≤ (wr .u64 (qh ((15 : Int) - (rd Gu Gv)))))) <|
          lt ((qh (Gw + (xz .i64 (1 : Int) (wr .u64 (qh ((15 : Int) - (rd Gu Gv)))))))) fun (GA : Int) =>
          lt ((qh (Gy + (1 : Int)))) fun (GB : Int) =>
          lt ((rd Gu Gv)) fun (Gz : Int) =>
          lt ((qh (Gv + (1 : Int)))) fun (GC : Int) =>
          qP.l1 K Gu k GA GB Gz GC)
          (
          lt ((qh (Gv + (1 : Int)))) fun (GD : Int) =>
          qP.l1 K Gu k Gw Gy Gx GD)))
      (
      qP.j2 K Gw Gy Gx)
def qP.m (K : Nat) (Gu : List Int) : qR Int :=
  cond (decide ((Gu.length : Int) > (320 : Int)))
    (
    .ok (1 : Int))
    (
    qP.l1 K Gu K (0 : Int) (0 : Int) (0 : Int) (0 : Int))
def zl.l2 (K : Nat) (g1 : (List Int) → Int → Int → qR ((List Int) × Int)) (Gx : List Int) (Gu : Int) : Nat → (List Int) → Int → Int → qR ((List Int) × Int)
  | 0, _, _, _ => .fail
  | k + 1, Gw, Gv, Gy =>
    cond (decide (Gy < (Gx.length : Int)))
      (
      chk (inb Gy Gx.length) <|
      cond ((rd Gx Gy) == Gu)
        (
        chk (inb Gy Gw.length) <|
        lt (Gw.set (Int.toNat Gy) Gv) fun (GB : (List Int)) =>
        lt ((qh (Gv + (1 : Int)))) fun (GA : Int) =>
        lt ((qh (Gy + (1 : Int)))) fun (GC : Int) =>
        zl.l2 K g1 Gx Gu k GB GA GC)
        (
        lt ((qh (Gy + (1 : Int)))) fun (GD : Int) =>
        zl.l2 K g1 Gx Gu k Gw Gv GD))
      (
      lt ((qh (Gu + (1 : Int)))) fun (Gz : Int) =>
      g1 Gw Gv Gz)
def zl.l1 (K : Nat) (Gw : List Int) : Nat → (List Int) → Int → Int → qR ((List Int) × Int)
  | 0, _, _, _ => .fail
  | k + 1, Gv, Gx, Gu =>
    cond (decide (Gu ≤ (15 : Int)))
      (
      lt ((qh (Gx * (2 : Int)))) fun (Gy : Int) =>
      zl.l2 K (zl.l1 K Gw k) Gw Gu K Gv Gy (0 : Int))
      (
      .ok (Gv, (0 : Int)))
def zl.m (K : Nat) (Gu : List Int) : qR ((List Int) × Int) :=
  (qP.m K Gu).bind fun Gv =>
  cond (Gv != (0 : Int))
    (
    .ok (([] : List Int), Gv))
    (
    chk (decide (0 ≤ (Gu.length : Int)) && room (Int.toNat (Gu.length : Int)) 8) <|
    lt (List.replicate (Int.toNat (Gu.length : Int)) (0 : Int)) fun (Gw : (List Int)) =>
    zl.l1 K Gu K Gw (0 : Int) (1 : Int))
def yu.m (K : Nat) (Gu : qr) : qR Bool :=
  cond (Gu.Dist_ == (0 : Int))
    (
    lt ((Gu.Len_ == (0 : Int))) fun (Gv : Bool) =>
    .ok Gv)
    (
    lt ((((((decide (Gu.Dist_ ≥ (1 : Int))) && (decide (Gu.Dist_ ≤ (32768 : Int)))) && (decide (Gu.Len_ ≥ (3 : Int)))) && (decide (Gu.Len_ ≤ (258 : Int)))) && (Gu.Lit_ == (0 : Int)))) fun (Gw : Bool) =>
    .ok Gw)
def yp.m (K : Nat) (Gu : Int) : qR (Int × Int) :=
  cond (Gu == (285 : Int))
    (
    .ok ((258 : Int), (0 : Int)))
    (
    lt ((qh (Gu - (257 : Int)))) fun (Gw : Int) =>
    cond (decide (Gw < (8 : Int)))
      (
      lt ((qh ((3 : Int) + Gw))) fun (Gx : Int) =>
      .ok (Gx, (0 : Int)))
      (
      lt ((qh ((yY .i64 Gw (4 : Int)) - (1 : Int)))) fun (Gv : Int) =>
      chk (decide (0 ≤ (wr .u64 Gv))) <|
      lt ((qh ((3 : Int) + (xz .i64 (qh ((4 : Int) + (v3 Gw (4 : Int)))) (wr .u64 Gv))))) fun (Gy : Int) =>
      .ok (Gy, Gv)))
def x9.m (K : Nat) (Gu : Int) : qR (Int × Int) :=
  cond (decide (Gu < (4 : Int)))
    (
    lt ((qh ((1 : Int) + Gu))) fun (Gw : Int) =>
    .ok (Gw, (0 : Int)))
    (
    lt ((qh ((yY .i64 Gu (2 : Int)) - (1 : Int)))) fun (Gv : Int) =>
    chk (decide (0 ≤ (wr .u64 Gv))) <|
    lt ((qh ((1 : Int) + (xz .i64 (qh ((2 : Int) + (v3 Gu (2 : Int)))) (wr .u64 Gv))))) fun (Gx : Int) =>
    .ok (Gx, Gv))
def zd.l2 (K : Nat) (g1 : (List Int) → Int → qR ((List UInt8) × Int)) (Gv : List qr) (Gw : Int) (Gx : Int) : Nat → (List Int) → Int → qR ((List UInt8) × Int)
  | 0, _, _ => .fail
  | k + 1, Gu, Gy =>
    cond (decide (Gy < Gx))
      (
      chk (inb (qh ((Gu.length : Int) - (rd Gv Gw).Dist_)) Gu.length) <|
      chk (room (Gu.length + ([(rd Gu (qh ((Gu.length : Int) - (rd Gv Gw).Dist_)))] : List Int).length) 1) <|
      lt (Gu ++ ([(rd Gu (qh ((Gu.length : Int) - (rd Gv Gw).Dist_)))] : List Int)) fun (Gz : (List Int)) =>
      lt ((qh (Gy + (1 : Int)))) fun (GA : Int) =>
      zd.l2 K g1 Gv Gw Gx k Gz GA)
      (
      lt ((qh (Gw + (1 : Int)))) fun (GB : Int) =>
      g1 Gu GB)
def zd.l1 (K : Nat) (Gu : List qr) (Gx : Int) : Nat → (List Int) → Int → qR ((List UInt8) × Int)
  | 0, _, _ => .fail
  | k + 1, Gw, Gv =>
    cond (decide (Gv < (Gu.length : Int)))
      (
      chk (inb Gv Gu.length) <|
      (yu.m K (qr.mk ((rd Gu Gv).Lit_) ((rd Gu Gv).Len_) ((rd Gu Gv).Dist_))).bind fun GA =>
      cond (!GA)
        (
        .ok (([] : List UInt8), (1 : Int)))
        (
        cond (decide ((rd Gu Gv).Dist_ > (Gw.length : Int)))
          (
          .ok (([] : List UInt8), (3 : Int)))
          (
          lt ((if (rd Gu Gv).Len_ > (1 : Int) then (rd Gu Gv).Len_ else (1 : Int))) fun (Gy : Int) =>
          cond (decide (Gy > (qh (Gx - (Gw.length : Int)))))
            (
            .ok (([] : List UInt8), (11 : Int)))
            (
            cond ((rd Gu Gv).Dist_ == (0 : Int))
              (
              chk (room (Gw.length + ([(rd Gu Gv).Lit_] : List Int).length) 1) <|
              lt (Gw ++ ([(rd Gu Gv).Lit_] : List Int)) fun (Gz : (List Int)) =>
              lt ((qh (Gv + (1 : Int)))) fun (GB : Int) =>
              zd.l1 K Gu Gx k Gz GB)
              (
              zd.l2 K (zd.l1 K Gu Gx k) Gu Gv Gy K Gw (0 : Int))))))
      (
      lt ((Gw.map ZX)) fun (GC : List UInt8) =>
      .ok (GC, (0 : Int)))
def zd.m (K : Nat) (Gv : List qr) (Gu : Int) : qR ((List UInt8) × Int) :=
  cond ((decide (Gu < (0 : Int))) || (decide (Gu > (1073741824 : Int))))
    (
    .ok (([] : List UInt8), (1 : Int)))
    (
    zd.l1 K Gv Gu K ([] : List Int) (0 : Int))
def ze.j2 (K : Nat) (Gv : qm) (Gu : Int) (Gw : Int) : qR (Int × Int × Int) :=
  .ok (Gw, (0 : Int), (qh (Gv.At_ + Gu)))
def ze.l1 (K : Nat) (Gv : qm) (Gx : Int) : Nat → Int → Int → qR (Int × Int × Int)
  | 0, _, _ => .fail
  | k + 1, Gy, Gw =>
    cond (decide (Gw < Gx))
      (
      lt ((qh (Gv.At_ + Gw))) fun (Gu : Int) =>
      chk (inb (yY .i64 Gu (8 : Int)) Gv.S_.length) <|
      chk (decide (0 ≤ (wr .u64 (v3 Gu (8 : Int))))) <|
      lt ((v3 (xC .u32 (wr .u32 ((rd Gv.S_ (yY .i64 Gu (8 : Int))).toNat : Int)) (wr .u64 (v3 Gu (8 : Int)))) (2 : Int))) fun (Gz : Int) =>
      chk (decide (0 ≤ (wr .u64 Gw))) <|
      lt ((wr .u32 (Gy + (xz .u32 Gz (wr .u64 Gw))))) fun (GA : Int) =>
      lt ((qh (Gw + (1 : Int)))) fun (GB : Int) =>
      ze.l1 K Gv Gx k GA GB)
      (
      ze.j2 K Gv Gx Gy)
def ze.m (K : Nat) (Gv : qm) (Gu : Int) : qR (Int × Int × Int) :=
  cond ((decide (Gu < (0 : Int))) || (decide (Gu > (32 : Int))))
    (
    .ok ((0 : Int), (1 : Int), Gv.At_))
    (
    cond (decide (Gu > (qh ((qh ((8 : Int) * (Gv.S_.length : Int))) - Gv.At_))))
      (
      .ok ((0 : Int), (2 : Int), Gv.At_))
      (
      ze.l1 K Gv Gu K (0 : Int) (0 : Int)))
def zG.m (K : Nat) (Gx : qu) (Gw : Int) (Gu : Int) : qR (Int × Int × Int) :=
  (ze.m K Gx.r_ Gw).bind fun (Gy, Gz, Gv) =>
  lt ((qh (Gu + (wr .i64 Gy)))) fun (GA : Int) =>
  .ok (GA, Gz, Gv)
def zN.l1 (K : Nat)  : Nat → Int → qR Int
  | 0, _ => .fail
  | k + 1, Gu =>
    cond ((v3 Gu (8 : Int)) != (0 : Int))
      (
      zN.l1 K k (qh (Gu + (1 : Int))))
      (
      .ok Gu)
def zN.m (K : Nat) (Gu : qm) : qR Int :=
  zN.l1 K K Gu.At_
def xD.m (K : Nat) (Gx : qm) (Gv : Int) : qR ((List UInt8) × Int × Int) :=
  cond (decide (Gv < (0 : Int)))
    (
    .ok (([] : List UInt8), (1 : Int), Gx.At_))
    (
    (zN.m K Gx).bind fun Gw =>
    lt ((yY .i64 Gw (8 : Int))) fun (Gu : Int) =>
    cond (decide (Gv > (qh ((Gx.S_.length : Int) - Gu))))
      (
      .ok (([] : List UInt8), (2 : Int), Gw))
      (
      chk (subok Gu (qh (Gu + Gv)) Gx.S_.length) <|
      lt ((sub Gx.S_ Gu (qh (Gu + Gv)))) fun (Gy : List UInt8) =>
      .ok (Gy, (0 : Int), (qh (Gw + (qh ((8 : Int) * Gv)))))))
def xO.m (K : Nat) (Gu : qu) : qR (Int × Int × (List Int)) :=
  (xD.m K Gu.r_ (4 : Int)).bind fun (Gv, Gz, Gw) =>
  cond (Gz != (0 : Int))
    (
    .ok (Gz, Gw, Gu.out_))
    (
    chk (inb (0 : Int) Gv.length) <|
    chk (inb (1 : Int) Gv.length) <|
    lt ((qh ((wr .i64 ((rd Gv (0 : Int)).toNat : Int)) + (qh ((256 : Int) * (wr .i64 ((rd Gv (1 : Int)).toNat : Int))))))) fun (Gy : Int) =>
    chk (inb (2 : Int) Gv.length) <|
    chk (inb (3 : Int) Gv.length) <|
    cond ((qh ((wr .i64 ((rd Gv (2 : Int)).toNat : Int)) + (qh ((256 : Int) * (wr .i64 ((rd Gv (3 : Int)).toNat : Int)))))) != (qh ((65535 : Int) - Gy)))
      (
      .ok ((3 : Int), Gw, Gu.out_))
      (
      (xD.m K (qm.mk Gu.r_.S_ Gw) Gy).bind fun (GA, GB, Gx) =>
      cond (GB != (0 : Int))
        (
        .ok (GB, Gx, Gu.out_))
        (
        cond (decide (Gy > (qh (Gu.limit_ - (Gu.out_.length : Int)))))
          (
          .ok ((11 : Int), Gx, Gu.out_))
          (
          chk (room (Gu.out_.length + GA.length) 1) <|
          lt (Gu.out_ ++ GA.map B7) fun (GC : (List Int)) =>
          .ok ((0 : Int), Gx, GC)))))
def xE.m (K : Nat) (Gu : List Int) : qR ((List Int) × Bool) :=
  (zl.m K Gu).bind fun (Gv, Gw) =>
  lt ((Gw == (0 : Int))) fun (Gx : Bool) =>
  .ok (Gv, Gx)
def qM.j3 (K : Nat) (g1 : Int → Int → Int → qR (Int × Int × Int)) (Gx : qm) (Gy : Int) (GB : Int) (Gu : Int) (Gv : Bool) : qR (Int × Int × Int) :=
  cond (!Gv)
    (
    .ok ((0 : Int), (3 : Int), Gx.At_))
    (
    (ze.m K (qm.mk Gx.S_ Gy) (1 : Int)).bind fun (GC, GA, Gz) =>
    cond (GA != (0 : Int))
      (
      .ok ((0 : Int), GA, Gx.At_))
      (
      lt ((qh ((qh ((2 : Int) * GB)) + (wr .i64 GC)))) fun (GD : Int) =>
      lt ((qh (Gu + (1 : Int)))) fun (Gw : Int) =>
      g1 Gz GD Gw))
def qM.l2 (K : Nat) (g1 : Int → Int → Int → qR (Int × Int × Int)) (Gx : List Int) (Gv : List Int) (GC : qm) (Gy : Int) (GA : Int) (Gu : Int) : Nat → Bool → Int → qR (Int × Int × Int)
  | 0, _, _ => .fail
  | k + 1, Gz, Gw =>
    cond (decide (Gw < (Gx.length : Int)))
      (
      chk (inb Gw Gx.length) <|
      chk (imp true (((rd Gx Gw) == Gu) && (decide (Gu > (0 : Int)))) (inb Gw Gv.length)) <|
      cond ((((rd Gx Gw) == Gu) && (decide (Gu > (0 : Int)))) && ((rd Gv Gw) == GA))
        (
        .ok (Gw, (0 : Int), Gy))
        (
        cond Gz
          (
          lt ((qh (Gw + (1 : Int)))) fun (GD : Int) =>
          qM.l2 K g1 Gx Gv GC Gy GA Gu k true GD)
          (
          cond (decide ((rd Gx Gw) > Gu))
            (
            chk (inb Gw Gv.length) <|
            chk (decide (0 ≤ (wr .u64 (qh ((rd Gx Gw) - Gu))))) <|
            lt (((xC .i64 (rd Gv Gw) (wr .u64 (qh ((rd Gx Gw) - Gu)))) == GA)) fun (GB : Bool) =>
            lt ((qh (Gw + (1 : Int)))) fun (GE : Int) =>
            qM.l2 K g1 Gx Gv GC Gy GA Gu k GB GE)
            (
            lt ((qh (Gw + (1 : Int)))) fun (GF : Int) =>
            qM.l2 K g1 Gx Gv GC Gy GA Gu k false GF))))
      (
      qM.j3 K (g1) GC Gy GA Gu Gz)
def qM.j4 (K : Nat) (Gu : qm) (Gv : Int) : qR (Int × Int × Int) :=
  .ok ((0 : Int), (3 : Int), Gu.At_)
def qM.l1 (K : Nat) (Gx : List Int) (Gv : List Int) (Gy : qm) : Nat → Int → Int → Int → qR (Int × Int × Int)
  | 0, _, _, _ => .fail
  | k + 1, Gw, Gz, Gu =>
    cond (decide (Gu ≤ (15 : Int)))
      (
      qM.l2 K (qM.l1 K Gx Gv Gy k) Gx Gv Gy Gw Gz Gu K false (0 : Int))
      (
      qM.j4 K Gy Gw)
def qM.m (K : Nat) (Gw : List Int) (Gu : List Int) (Gv : qm) : qR (Int × Int × Int) :=
  qM.l1 K Gw Gu Gv K Gv.At_ (0 : Int) (0 : Int)
def zM.l1 (K : Nat) (Gx : Int) (Gv : Int) (Gw : Int) : Nat → (List Int) → Int → qR (Int × Int × (List Int))
  | 0, _, _ => .fail
  | k + 1, Gu, Gy =>
    cond (decide (Gy < Gx))
      (
      chk (inb (qh ((Gu.length : Int) - Gv)) Gu.length) <|
      chk (room (Gu.length + ([(rd Gu (qh ((Gu.length : Int) - Gv)))] : List Int).length) 1) <|
      lt (Gu ++ ([(rd Gu (qh ((Gu.length : Int) - Gv)))] : List Int)) fun (Gz : (List Int)) =>
      lt ((qh (Gy + (1 : Int)))) fun (GA : Int) =>
      zM.l1 K Gx Gv Gw k Gz GA)
      (
      .ok ((0 : Int), Gw, Gu))
def zM.m (K : Nat) (Gu : qu) (Gx : Int) (Gv : zx) : qR (Int × Int × (List Int)) :=
  cond (decide (Gx > (285 : Int)))
    (
    .ok ((3 : Int), Gu.r_.At_, Gu.out_))
    (
    (yp.m K Gx).bind fun (GG, GH) =>
    (zG.m K Gu GH GG).bind fun (GA, GB, Gz) =>
    cond (GB != (0 : Int))
      (
      .ok (GB, Gz, Gu.out_))
      (
      (qM.m K Gv.l_ Gv.codes_ (qm.mk Gu.r_.S_ Gz)).bind fun (GC, GD, Gy) =>
      cond (GD != (0 : Int))
        (
        .ok (GD, Gy, Gu.out_))
        (
        cond (decide (GC > (29 : Int)))
          (
          .ok ((3 : Int), Gy, Gu.out_))
          (
          (x9.m K GC).bind fun (GI, GJ) =>
          (zG.m K (qu.mk (qm.mk Gu.r_.S_ Gy) Gu.out_ Gu.limit_) GJ GI).bind fun (GE, GF, Gw) =>
          cond (GF != (0 : Int))
            (
            .ok (GF, Gw, Gu.out_))
            (
            cond (decide (GE > (Gu.out_.length : Int)))
              (
              .ok ((3 : Int), Gw, Gu.out_))
              (
              cond (decide (GA > (qh (Gu.limit_ - (Gu.out_.length : Int)))))
                (
                .ok ((11 : Int), Gw, Gu.out_))
                (
                zM.l1 K GA GE Gw K Gu.out_ (0 : Int))))))))
def zH.l1 (K : Nat) (Gy : qu) (Gu : zx) (Gv : zx) : Nat → Int → (List Int) → qR (Int × Int × (List Int))
  | 0, _, _ => .fail
  | k + 1, GC, Gw =>
    (qM.m K Gu.l_ Gu.codes_ (qm.mk Gy.r_.S_ GC)).bind fun (Gz, GD, Gx) =>
    cond (GD != (0 : Int))
      (
      .ok (GD, Gx, Gw))
      (
      cond (Gz == (256 : Int))
        (
        .ok ((0 : Int), Gx, Gw))
        (
        cond (decide (Gz < (256 : Int)))
          (
          cond (decide ((Gw.length : Int) ≥ Gy.limit_))
            (
            .ok ((11 : Int), Gx, Gw))
            (
            chk (room (Gw.length + ([(wr .u8 Gz)] : List Int).length) 1) <|
            lt (Gw ++ ([(wr .u8 Gz)] : List Int)) fun (GF : (List Int)) =>
            zH.l1 K Gy Gu Gv k Gx GF))
          (
          (zM.m K (qu.mk (qm.mk Gy.r_.S_ Gx) Gw Gy.limit_) Gz Gv).bind fun (GE, GA, GB) =>
          cond (GE != (0 : Int))
            (
            .ok (GE, GA, GB))
            (
            zH.l1 K Gy Gu Gv k GA GB))))
def zH.m (K : Nat) (Gw : qu) (Gv : zx) (Gu : zx) : qR (Int × Int × (List Int)) :=
  zH.l1 K Gw Gv Gu K Gw.r_.At_ Gw.out_
def yP.m (K : Nat) : qR Unit :=
  .ok ()
def zb.j2 (K : Nat) (Gy : Int) (Gz : Int) (Gu : Int) (Gw : (List Int)) (Gx : Bool) : qR (Int × Int × (List Int) × (List Int) × Int × Int) :=
  (xE.m K Gw).bind fun (Gv, GA) =>
  cond ((!GA) || (!Gx))
    (
    .ok ((0 : Int), (0 : Int), ([] : List Int), ([] : List Int), (3 : Int), Gu))
    (
    .ok (Gy, Gz, Gw, Gv, (0 : Int), Gu))
def zb.l1 (K : Nat) (Gw : qu) (GB : Int) (GC : Int) (GD : Int) : Nat → Int → (List Int) → Bool → Int → qR (Int × Int × (List Int) × (List Int) × Int × Int)
  | 0, _, _, _, _ => .fail
  | k + 1, Gx, Gv, Gy, Gu =>
    cond (decide (Gu < GD))
      (
      (zG.m K (qu.mk (qm.mk Gw.r_.S_ Gx) Gw.out_ Gw.limit_) (3 : Int) (0 : Int)).bind fun (GE, GF, Gz) =>
      cond (GF != (0 : Int))
        (
        .ok ((0 : Int), (0 : Int), ([] : List Int), ([] : List Int), GF, Gz))
        (
        chk (inb Gu ([(16 : Int), (17 : Int), (18 : Int), (0 : Int), (8 : Int), (7 : Int), (9 : Int), (6 : Int), (10 : Int), (5 : Int), (11 : Int), (4 : Int), (12 : Int), (3 : Int), (13 : Int), (2 : Int), (14 : Int), (1 : Int), (15 : Int)] : List Int).length) <|
        chk (inb (rd ([(16 : Int), (17 : Int), (18 : Int), (0 : Int), (8 : Int), (7 : Int), (9 : Int), (6 : Int), (10 : Int), (5 : Int), (11 : Int), (4 : Int), (12 : Int), (3 : Int), (13 : Int), (2 : Int), (14 : Int), (1 : Int), (15 : Int)] : List Int) Gu) Gv.length) <|
        lt (Gv.set (Int.toNat (rd ([(16 : Int), (17 : Int), (18 : Int), (0 : Int), (8 : Int), (7 : Int), (9 : Int), (6 : Int), (10 : Int), (5 : Int), (11 : Int), (4 : Int), (12 : Int), (3 : Int), (13 : Int), (2 : Int), (14 : Int), (1 : Int), (15 : Int)] : List Int) Gu)) GE) fun (GG : (List Int)) =>
        lt ((Gy || (decide (GE > (0 : Int))))) fun (GA : Bool) =>
        lt ((qh (Gu + (1 : Int)))) fun (GH : Int) =>
        zb.l1 K Gw GB GC GD k Gz GG GA GH))
      (
      zb.j2 K GB GC Gx Gv Gy)
def zb.m (K : Nat) (Gu : qu) : qR (Int × Int × (List Int) × (List Int) × Int × Int) :=
  (zG.m K Gu (5 : Int) (257 : Int)).bind fun (Gy, Gz, Gw) =>
  cond (Gz != (0 : Int))
    (
    .ok ((0 : Int), (0 : Int), ([] : List Int), ([] : List Int), Gz, Gw))
    (
    (zG.m K (qu.mk (qm.mk Gu.r_.S_ Gw) Gu.out_ Gu.limit_) (5 : Int) (1 : Int)).bind fun (GA, GB, Gx) =>
    cond (GB != (0 : Int))
      (
      .ok ((0 : Int), (0 : Int), ([] : List Int), ([] : List Int), GB, Gx))
      (
      (zG.m K (qu.mk (qm.mk Gu.r_.S_ Gx) Gu.out_ Gu.limit_) (4 : Int) (4 : Int)).bind fun (GE, GC, Gv) =>
      cond (GC != (0 : Int))
        (
        .ok ((0 : Int), (0 : Int), ([] : List Int), ([] : List Int), GC, Gv))
        (
        cond ((decide (Gy > (286 : Int))) || (decide (GA > (30 : Int))))
          (
          .ok ((0 : Int), (0 : Int), ([] : List Int), ([] : List Int), (3 : Int), Gv))
          (
          chk (decide (0 ≤ (19 : Int)) && room (Int.toNat (19 : Int)) 8) <|
          lt (List.replicate (Int.toNat (19 : Int)) (0 : Int)) fun (GD : (List Int)) =>
          (yP.m K).bind fun _ =>
          zb.l1 K Gu Gy GA GE K Gv GD false (0 : Int)))))
def qJ.l3 (K : Nat) (g1 : Int → (List Int) → qR ((List Int) × Int × Int)) (Gx : Int) (Gu : Int) (Gv : Int) : Nat → (List Int) → Int → qR ((List Int) × Int × Int)
  | 0, _, _ => .fail
  | k + 1, Gw, Gy =>
    cond (decide (Gy < Gv))
      (
      chk (room (Gw.length + ([Gu] : List Int).length) 8) <|
      lt (Gw ++ ([Gu] : List Int)) fun (Gz : (List Int)) =>
      lt ((qh (Gy + (1 : Int)))) fun (GA : Int) =>
      qJ.l3 K g1 Gx Gu Gv k Gz GA)
      (
      g1 Gx Gw)
def qJ.j2 (K : Nat) (g1 : Int → (List Int) → qR ((List Int) × Int × Int)) (Gz : Int) (Gw : (List Int)) (Gv : Int) (Gy : Int) (Gx : Int) (Gu : Int) : qR ((List Int) × Int × Int) :=
  cond (Gy != (0 : Int))
    (
    .ok (([] : List Int), Gy, Gv))
    (
    cond (decide (Gu > (qh (Gz - (Gw.length : Int)))))
      (
      .ok (([] : List Int), (3 : Int), Gv))
      (
      qJ.l3 K (g1) Gv Gx Gu K Gw (0 : Int)))
def qJ.l1 (K : Nat) (Gv : qu) (Gw : Int) (Gy : zx) : Nat → Int → (List Int) → qR ((List Int) × Int × Int)
  | 0, _, _ => .fail
  | k + 1, GA, Gu =>
    cond (decide ((Gu.length : Int) < Gw))
      (
      (qM.m K Gy.l_ Gy.codes_ (qm.mk Gv.r_.S_ GA)).bind fun (Gz, GF, Gx) =>
      cond (GF != (0 : Int))
        (
        .ok (([] : List Int), GF, Gx))
        (
        cond (decide (Gz < (16 : Int)))
          (
          chk (room (Gu.length + ([Gz] : List Int).length) 8) <|
          lt (Gu ++ ([Gz] : List Int)) fun (GG : (List Int)) =>
          qJ.l1 K Gv Gw Gy k Gx GG)
          (
          lt ((Gz == (16 : Int))) fun (GH : Bool) =>
          cond GH
            (
            cond ((Gu.length : Int) == (0 : Int))
              (
              .ok (([] : List Int), (3 : Int), Gx))
              (
              chk (inb (qh ((Gu.length : Int) - (1 : Int))) Gu.length) <|
              lt ((rd Gu (qh ((Gu.length : Int) - (1 : Int))))) fun (GB : Int) =>
              (zG.m K (qu.mk (qm.mk Gv.r_.S_ Gx) Gv.out_ Gv.limit_) (2 : Int) (3 : Int)).bind fun (GI, GJ, GC) =>
              qJ.j2 K (qJ.l1 K Gv Gw Gy k) Gw Gu GC GJ GB GI))
            (
            lt ((Gz == (17 : Int))) fun (GK : Bool) =>
            cond GK
              (
              (zG.m K (qu.mk (qm.mk Gv.r_.S_ Gx) Gv.out_ Gv.limit_) (3 : Int) (3 : Int)).bind fun (GL, GM, GD) =>
              qJ.j2 K (qJ.l1 K Gv Gw Gy k) Gw Gu GD GM (0 : Int) GL)
              (
              (zG.m K (qu.mk (qm.mk Gv.r_.S_ Gx) Gv.out_ Gv.limit_) (7 : Int) (11 : Int)).bind fun (GN, GO, GE) =>
              qJ.j2 K (qJ.l1 K Gv Gw Gy k) Gw Gu GE GO (0 : Int) GN)))))
      (
      .ok (Gu, (0 : Int), GA))
def qJ.m (K : Nat) (Gu : qu) (Gv : Int) (Gw : zx) : qR ((List Int) × Int × Int) :=
  qJ.l1 K Gu Gv Gw K Gu.r_.At_ ([] : List Int)
def xK.m (K : Nat) (Gu : qu) : qR (Int × Int × (List Int)) :=
  (zb.m K Gu).bind fun (Gx, GL, GK, Gz, GG, Gy) =>
  cond (GG != (0 : Int))
    (
    .ok (GG, Gy, Gu.out_))
    (
    (qJ.m K (qu.mk (qm.mk Gu.r_.S_ Gy) Gu.out_ Gu.limit_) (qh (Gx + GL)) (zx.mk GK Gz)).bind fun (Gv, GH, Gw) =>
    cond (GH != (0 : Int))
      (
      .ok (GH, Gw, Gu.out_))
      (
      chk (subok (0 : Int) Gx Gv.length) <|
      lt (sub Gv (0 : Int) Gx) fun (GC : (List Int)) =>
      (xE.m K GC).bind fun (GA, GI) =>
      chk (subok Gx (Gv.length : Int) Gv.length) <|
      lt (sub Gv Gx (Gv.length : Int)) fun (GD : (List Int)) =>
      (xE.m K GD).bind fun (GB, GJ) =>
      chk (imp false ((!GI) || (!GJ)) (inb (256 : Int) Gv.length)) <|
      cond (((!GI) || (!GJ)) || ((rd Gv (256 : Int)) == (0 : Int)))
        (
        .ok ((3 : Int), Gw, Gu.out_))
        (
        (zH.m K (qu.mk (qm.mk Gu.r_.S_ Gw) Gu.out_ Gu.limit_) (zx.mk GC GA) (zx.mk GD GB)).bind fun (GM, GE, GF) =>
        .ok (GM, GE, GF))))
def xS.m (K : Nat) (Gu : qu) : qR (Bool × Int × Int × (List Int)) :=
  (zG.m K Gu (1 : Int) (0 : Int)).bind fun (Gz, GH, Gw) =>
  cond (GH != (0 : Int))
    (
    .ok (false, GH, Gw, Gu.out_))
    (
    (zG.m K (qu.mk (qm.mk Gu.r_.S_ Gw) Gu.out_ Gu.limit_) (2 : Int) (0 : Int)).bind fun (GA, GI, Gv) =>
    cond (GI != (0 : Int))
      (
      .ok (false, GI, Gv, Gu.out_))
      (
      lt ((GA == (0 : Int))) fun (GL : Bool) =>
      cond GL
        (
        (xO.m K (qu.mk (qm.mk Gu.r_.S_ Gv) Gu.out_ Gu.limit_)).bind fun (GM, GB, GC) =>
        lt ((Gz == (1 : Int))) fun (GN : Bool) =>
        .ok (GN, GM, GB, GC))
        (
        lt ((GA == (1 : Int))) fun (GO : Bool) =>
        cond GO
          (
          (zC.m K).bind fun (GJ, GK) =>
          (xE.m K GJ).bind fun (Gx, GU) =>
          (xE.m K GK).bind fun (Gy, GV) =>
          (zH.m K (qu.mk (qm.mk Gu.r_.S_ Gv) Gu.out_ Gu.limit_) (zx.mk GJ Gx) (zx.mk GK Gy)).bind fun (GP, GD, GE) =>
          lt ((Gz == (1 : Int))) fun (GQ : Bool) =>
          .ok (GQ, GP, GD, GE))
          (
          lt ((GA == (2 : Int))) fun (GR : Bool) =>
          cond GR
            (
            (xK.m K (qu.mk (qm.mk Gu.r_.S_ Gv) Gu.out_ Gu.limit_)).bind fun (GS, GF, GG) =>
            lt ((Gz == (1 : Int))) fun (GT : Bool) =>
            .ok (GT, GS, GF, GG))
            (
            .ok (false, (3 : Int), Gv, Gu.out_))))))
def z7.l1 (K : Nat) (Gz : List UInt8) (Gu : Int) : Nat → Int → (List Int) → qR ((List UInt8) × Int × Int)
  | 0, _, _ => .fail
  | k + 1, Gx, Gy =>
    (xS.m K (qu.mk (qm.mk Gz Gx) Gy Gu)).bind fun (GB, GA, Gv, Gw) =>
    cond (GA != (0 : Int))
      (
      .ok (([] : List UInt8), (0 : Int), GA))
      (
      cond GB
        (
        lt ((Gw.map ZX)) fun (GC : List UInt8) =>
        lt ((yY .i64 (qh (Gv + (7 : Int))) (8 : Int))) fun (GD : Int) =>
        .ok (GC, GD, (0 : Int)))
        (
        z7.l1 K Gz Gu k Gv Gw))
def z7.m (K : Nat) (Gv : List UInt8) (Gu : Int) : qR ((List UInt8) × Int × Int) :=
  cond ((decide (Gu < (0 : Int))) || (decide (Gu > (1073741824 : Int))))
    (
    .ok (([] : List UInt8), (0 : Int), (1 : Int)))
    (
    z7.l1 K Gv Gu K (0 : Int) ([] : List Int))
def qG.j2 (K : Nat)  (Gu : Bool) : qR Bool :=
  .ok Gu
def qG.j4 (K : Nat)  (Gu : Bool) : qR Bool :=
  .ok Gu
def qG.j3 (K : Nat) (Gx : List qr) (Gu : List UInt8) (Gw : Int) : qR Bool :=
  chk (imp false ((Gw != (0 : Int)) || ((Gu.length : Int) == (0 : Int))) (inb (0 : Int) Gu.length)) <|
  cond (((Gw != (0 : Int)) || ((Gu.length : Int) == (0 : Int))) || ((v3 ((rd Gu (0 : Int)).toNat : Int) (8 : Int)) != (5 : Int)))
    (
    .ok false)
    (
    (zd.m K Gx (1073741824 : Int)).bind fun (Gv, Gy) =>
    cond (Gy != (0 : Int))
      (
      (z6.m K).bind fun Gz =>
      .ok Gz)
      (
      cond (decide ((Gv.length : Int) > (20000 : Int)))
        (
        (z6.m K).bind fun GA =>
        .ok GA)
        (
        (z7.m K Gu (Gv.length : Int)).bind fun (GB, GC, GD) =>
        cond (((GB == Gv) && (GC == (Gu.length : Int))) && (GD == (0 : Int)))
          (
          (z6.m K).bind fun GE =>
          qG.j4 K GE)
          (
          qG.j4 K false))))
def qG.l1 (K : Nat) (Gu : List qr) (Gw : List UInt8) (Gx : Int) : Nat → Int → qR Bool
  | 0, _ => .fail
  | k + 1, Gv =>
    cond (decide (Gv < (Gu.length : Int)))
      (
      chk (inb Gv Gu.length) <|
      (yu.m K (qr.mk ((rd Gu Gv).Lit_) ((rd Gu Gv).Len_) ((rd Gu Gv).Dist_))).bind fun Gy =>
      cond (!Gy)
        (
        cond ((Gx == (1 : Int)) && (Gw == ([] : List UInt8)))
          (
          (z6.m K).bind fun Gz =>
          qG.j2 K Gz)
          (
          qG.j2 K false))
        (
        lt ((qh (Gv + (1 : Int)))) fun (GA : Int) =>
        qG.l1 K Gu Gw Gx k GA))
      (
      qG.j3 K Gu Gw Gx)
def qG.m (K : Nat) (Gu : List qr) : qR Bool :=
  cond (decide ((Gu.length : Int) > (300 : Int)))
    (
    (z6.m K).bind fun Gv =>
    .ok Gv)
    (
    (qj.m K Gu).bind fun (Gw, Gx) =>
    qG.l1 K Gu Gw Gx K (0 : Int))
end Go.Mo
