/- Models of the Go functions that this statement reaches, printed by a program of mine: nothing is proved but lengths of tables. -/
import Derived.Test.YtlaobafbdllajaaDoorOwnmjlpg
set_option linter.unusedVariables false
set_option linter.unusedSimpArgs false
namespace Go.Mo
open Go Go.Sl
structure qb where
  Tag_ : List UInt8
  Data_ : List UInt8
  deriving Inhabited
structure q3 where
  Lo_ : Int
  Hi_ : Int
  deriving Inhabited
structure qa where
  span_ : q3
  x_ : List UInt8
  deriving Inhabited
structure qn where
  text_ : List UInt8
  base_ : Int
  deriving Inhabited
structure qv where
  items_ : (List qa)
  deriving Inhabited
structure zZ where
  Window_ : qn
  claims_ : qv
  deriving Inhabited
structure vT where
  L_ : (List q3)
  X_ : (List Int)
  deriving Inhabited
structure vi where
  Kind_ : Int
  L_ : (List qb)
  At_ : Int
  By_ : Int
  deriving Inhabited
def xw.m (K : Nat) (Xd : Int) : qQ Bool :=
  lt (((Xd == (65536 : Int)) || (Xd == (1330926671 : Int)))) fun (Xe : Bool) =>
  .ok Xe
def zh.l1 (K : Nat) (Xg : List UInt8) (Xd : (List Int)) : Nat → Int → qQ Bool
  | 0, _ => .fail
  | k + 1, Xf =>
    cond (decide (Xf < (Xd.length : Int)))
      (
      z2 (inb Xf Xd.length) <|
      lt ((rd Xd Xf)) fun (Xe : Int) =>
      cond ((decide (Xe < (32 : Int))) || (decide (Xe > (126 : Int))))
        (
        .ok false)
        (
        zh.l1 K Xg Xd k (qB (Xf + (1 : Int)))))
      (
      lt (((Xg.length : Int) == (4 : Int))) fun (Xh : Bool) =>
      .ok Xh)
def zh.m (K : Nat) (Xd : List UInt8) : qQ Bool :=
  z2 (xC Xd.length) <|
  lt (Xd.map xK) fun (Xe : (List Int)) =>
  zh.l1 K Xd Xe K (0 : Int)
def zN.m (K : Nat) (Xd : Int) : qQ Int :=
  lt ((vr .i64 (qB (Xd + (3 : Int))) (3 : Int))) fun (Xe : Int) =>
  .ok Xe
def qH.j2 (K : Nat) (g1 : Int → Int → qQ Bool) (Xf : List qb) (Xd : Int) (Xg : Int) (Xh : Bool) : qQ Bool :=
  cond Xh
    (
    .ok false)
    (
    (zN.m K (((rd Xf Xg).Data_).length : Int)).bind fun Xi =>
    lt ((qB (Xd + Xi))) fun (Xe : Int) =>
    g1 Xe (qB (Xg + (1 : Int))))
def qH.j3 (K : Nat) (Xe : List qb) (Xd : Int) : qQ Bool :=
  lt ((((decide ((Xe.length : Int) > (0 : Int))) && (decide ((Xe.length : Int) ≤ (1000 : Int)))) && (decide (Xd < (1073741824 : Int))))) fun (Xf : Bool) =>
  .ok Xf
def qH.l1 (K : Nat) (Xd : List qb) : Nat → Int → Int → qQ Bool
  | 0, _, _ => .fail
  | k + 1, Xe, Xf =>
    cond (decide (Xf < (Xd.length : Int)))
      (
      z2 (inb Xf Xd.length) <|
      (zh.m K ((rd Xd Xf).Tag_)).bind fun Xg =>
      cond Xg
        (
        cond (decide (Xf > (0 : Int)))
          (
          z2 (inb (qB (Xf - (1 : Int))) Xd.length) <|
          cond (!Op.bytesLess (rd Xd (qB (Xf - (1 : Int)))).Tag_ (rd Xd Xf).Tag_)
            (
            qH.j2 K (qH.l1 K Xd k) Xd Xe Xf true)
            (
            qH.j2 K (qH.l1 K Xd k) Xd Xe Xf (decide ((((rd Xd Xf).Data_).length : Int) > (16777216 : Int)))))
          (
          qH.j2 K (qH.l1 K Xd k) Xd Xe Xf (decide ((((rd Xd Xf).Data_).length : Int) > (16777216 : Int)))))
        (
        qH.j2 K (qH.l1 K Xd k) Xd Xe Xf true))
      (
      qH.j3 K Xd Xe)
def qH.m (K : Nat) (Xd : List qb) : qQ Bool :=
  qH.l1 K Xd K (0 : Int) (0 : Int)
def zr.l1 (K : Nat) (Xf : List UInt8) : Nat → Int → Int → qQ Int
  | 0, _, _ => .fail
  | k + 1, Xe, Xd =>
    cond (decide (Xd < (Xf.length : Int)))
      (
      z2 (inb Xd Xf.length) <|
      z2 (decide (0 ≤ (qB ((24 : Int) - (qB ((8 : Int) * (jr .i64 Xd (3 : Int)))))))) <|
      lt ((wr .u32 (Xe + (jM .u32 (wr .u32 ((rd Xf Xd).toNat : Int)) (qB ((24 : Int) - (qB ((8 : Int) * (jr .i64 Xd (3 : Int)))))))))) fun (Xg : Int) =>
      zr.l1 K Xf k Xg (qB (Xd + (1 : Int))))
      (
      .ok Xe)
def zr.m (K : Nat) (Xd : List UInt8) : qQ Int :=
  zr.l1 K Xd K (0 : Int) (0 : Int)
def xx.m (K : Nat) (Xd : Int) : qQ Bool :=
  lt ((((decide (Xd > (0 : Int))) && (decide (Xd ≤ (8 : Int)))) && ((jr .i64 Xd (qB (Xd - (1 : Int)))) == (0 : Int)))) fun (Xe : Bool) =>
  .ok Xe
def qp.j3 (K : Nat)  (Xf : Int) (Xd : Int) : qQ Int :=
  z2 (inb (wr .u8 Xf) ([0, 1, 2, 2, 3, 3, 3, 3, 4, 4, 4, 4, 4, 4, 4, 4, 5, 5, 5, 5, 5, 5, 5, 5, 5, 5, 5, 5, 5, 5, 5, 5, 6, 6, 6, 6, 6, 6, 6, 6, 6, 6, 6, 6, 6, 6, 6, 6, 6, 6, 6, 6, 6, 6, 6, 6, 6, 6, 6, 6, 6, 6, 6, 6, 7, 7, 7, 7, 7, 7, 7, 7, 7, 7, 7, 7, 7, 7, 7, 7, 7, 7, 7, 7, 7, 7, 7, 7, 7, 7, 7, 7, 7, 7, 7, 7, 7, 7, 7, 7, 7, 7, 7, 7, 7, 7, 7, 7, 7, 7, 7, 7, 7, 7, 7, 7, 7, 7, 7, 7, 7, 7, 7, 7, 7, 7, 7, 7, 8, 8, 8, 8, 8, 8, 8, 8, 8, 8, 8, 8, 8, 8, 8, 8, 8, 8, 8, 8, 8, 8, 8, 8, 8, 8, 8, 8, 8, 8, 8, 8, 8, 8, 8, 8, 8, 8, 8, 8, 8, 8, 8, 8, 8, 8, 8, 8, 8, 8, 8, 8, 8, 8, 8, 8, 8, 8, 8, 8, 8, 8, 8, 8, 8, 8, 8, 8, 8, 8, 8, 8, 8, 8, 8, 8, 8, 8, 8, 8, 8, 8, 8, 8, 8, 8, 8, 8, 8, 8, 8, 8, 8, 8, 8, 8, 8, 8, 8, 8, 8, 8, 8, 8, 8, 8, 8, 8, 8, 8, 8, 8, 8, 8, 8, 8, 8, 8, 8, 8, 8, 8, 8, 8, 8, 8, 8, 8] : List UInt8).length) <|
  lt ((qB (Xd + (wr .i64 ((rd ([0, 1, 2, 2, 3, 3, 3, 3, 4, 4, 4, 4, 4, 4, 4, 4, 5, 5, 5, 5, 5, 5, 5, 5, 5, 5, 5, 5, 5, 5, 5, 5, 6, 6, 6, 6, 6, 6, 6, 6, 6, 6, 6, 6, 6, 6, 6, 6, 6, 6, 6, 6, 6, 6, 6, 6, 6, 6, 6, 6, 6, 6, 6, 6, 7, 7, 7, 7, 7, 7, 7, 7, 7, 7, 7, 7, 7, 7, 7, 7, 7, 7, 7, 7, 7, 7, 7, 7, 7, 7, 7, 7, 7, 7, 7, 7, 7, 7, 7, 7, 7, 7, 7, 7, 7, 7, 7, 7, 7, 7, 7, 7, 7, 7, 7, 7, 7, 7, 7, 7, 7, 7, 7, 7, 7, 7, 7, 7, 8, 8, 8, 8, 8, 8, 8, 8, 8, 8, 8, 8, 8, 8, 8, 8, 8, 8, 8, 8, 8, 8, 8, 8, 8, 8, 8, 8, 8, 8, 8, 8, 8, 8, 8, 8, 8, 8, 8, 8, 8, 8, 8, 8, 8, 8, 8, 8, 8, 8, 8, 8, 8, 8, 8, 8, 8, 8, 8, 8, 8, 8, 8, 8, 8, 8, 8, 8, 8, 8, 8, 8, 8, 8, 8, 8, 8, 8, 8, 8, 8, 8, 8, 8, 8, 8, 8, 8, 8, 8, 8, 8, 8, 8, 8, 8, 8, 8, 8, 8, 8, 8, 8, 8, 8, 8, 8, 8, 8, 8, 8, 8, 8, 8, 8, 8, 8, 8, 8, 8, 8, 8, 8, 8, 8, 8, 8, 8] : List UInt8) (wr .u8 Xf)).toNat : Int))))) fun (Xe : Int) =>
  .ok Xe
def qp.j2 (K : Nat)  (Xe : Int) (Xd : Int) : qQ Int :=
  cond (decide (Xe ≥ (256 : Int)))
    (
    lt ((xJ .u64 Xe (8 : Int))) fun (Xg : Int) =>
    lt ((qB (Xd + (8 : Int)))) fun (Xf : Int) =>
    qp.j3 K Xg Xf)
    (
    qp.j3 K Xe Xd)
def qp.j1 (K : Nat)  (Xe : Int) (Xd : Int) : qQ Int :=
  cond (decide (Xe ≥ (65536 : Int)))
    (
    lt ((xJ .u64 Xe (16 : Int))) fun (Xg : Int) =>
    lt ((qB (Xd + (16 : Int)))) fun (Xf : Int) =>
    qp.j2 K Xg Xf)
    (
    qp.j2 K Xe Xd)
def qp.m (K : Nat) (Xd : Int) : qQ Int :=
  cond (decide (Xd ≥ (4294967296 : Int)))
    (
    lt ((xJ .u64 Xd (32 : Int))) fun (Xe : Int) =>
    qp.j1 K Xe (32 : Int))
    (
    qp.j1 K Xd (0 : Int))
def zO.m (K : Nat) (Xd : Int) : qQ Unit :=
  .ok ()
def zE.m (K : Nat) (Xd : Int) (Xe : Int) : qQ Int :=
  lt ((qB ((qB (Xe - (1 : Int))) - Xd))) fun (Xf : Int) =>
  .ok Xf
def qV.l1 (K : Nat) (Xg : Int) (Xd : Int) (Xh : (List Int)) : Nat → (List Int) → Int → qQ ((List UInt8) × Int)
  | 0, _, _ => .fail
  | k + 1, Xe, Xf =>
    cond (decide (Xf < (Xh.length : Int)))
      (
      z2 (decide (0 ≤ (qB ((8 : Int) * Xf)))) <|
      (zE.m K Xf Xd).bind fun Xi =>
      z2 (inb Xi Xe.length) <|
      lt (Xe.set (Int.toNat Xi) (wr .u8 (xJ .u64 Xg (qB ((8 : Int) * Xf))))) fun (Xj : (List Int)) =>
      qV.l1 K Xg Xd Xh k Xj (qB (Xf + (1 : Int))))
      (
      lt ((Xe.map jt)) fun (Xk : List UInt8) =>
      .ok (Xk, (0 : Int)))
def qV.m (K : Nat) (Xe : Int) (Xd : Int) : qQ ((List UInt8) × Int) :=
  (xx.m K Xd).bind fun Xg =>
  cond (!Xg)
    (
    .ok (([] : List UInt8), (1 : Int)))
    (
    (qp.m K Xe).bind fun Xh =>
    cond (decide (Xh > (qB ((8 : Int) * Xd))))
      (
      .ok (([] : List UInt8), (10 : Int)))
      (
      (zO.m K Xd).bind fun _ =>
      z2 (decide (0 ≤ Xd) && room (Int.toNat Xd) 1) <|
      lt (List.replicate (Int.toNat Xd) (0 : Int)) fun (Xf : (List Int)) =>
      qV.l1 K Xe Xd Xf K Xf (0 : Int)))
def yr.m (K : Nat) (Xd : Int) : qQ (List UInt8) :=
  (qV.m K (wr .u64 Xd) (4 : Int)).bind fun (Xe, Xf) =>
  .ok Xe
def zD.m (K : Nat) (Xd : (List Int)) : qQ Int :=
  lt ((Xd.length : Int)) fun (Xe : Int) =>
  .ok Xe
def q5.m (K : Nat) (Xd : (List Int)) (Xe : List UInt8) : qQ (Int × (List Int)) :=
  z2 (room (Xd.length + Xe.length) 1) <|
  lt (Xd ++ Xe.map xK) fun (Xf : (List Int)) =>
  lt ((Xe.length : Int)) fun (Xg : Int) =>
  .ok (Xg, Xf)
def strings_Repeat.m (K : Nat) (Xe : List UInt8) (Xd : Int) : qQ (List UInt8) :=
  (u1 Xe Xd).bind fun Xf =>
  .ok Xf
def yq.m (K : Nat) (Xd : Int) : qQ (List UInt8) :=
  (qV.m K (wr .u64 Xd) (2 : Int)).bind fun (Xe, Xf) =>
  .ok Xe
def zz.l1 (K : Nat) (Xg : Int) (Xh : Int) : Nat → Int → Int → qQ (List UInt8)
  | 0, _, _ => .fail
  | k + 1, Xd, Xe =>
    cond (decide ((qB ((2 : Int) * Xd)) ≤ Xh))
      (
      lt ((qB (Xd * (2 : Int)))) fun (Xi : Int) =>
      lt ((qB (Xe + (1 : Int)))) fun (Xf : Int) =>
      zz.l1 K Xg Xh k Xi Xf)
      (
      (yr.m K (wr .i64 Xg)).bind fun Xj =>
      (yq.m K Xh).bind fun Xk =>
      z2 (xC (Xj.length + Xk.length)) <|
      (yq.m K (qB ((16 : Int) * Xd))).bind fun Xl =>
      z2 (xC ((Xj ++ Xk).length + Xl.length)) <|
      (yq.m K Xe).bind fun Xm =>
      z2 (xC (((Xj ++ Xk) ++ Xl).length + Xm.length)) <|
      (yq.m K (qB ((16 : Int) * (qB (Xh - Xd))))).bind fun Xn =>
      z2 (xC ((((Xj ++ Xk) ++ Xl) ++ Xm).length + Xn.length)) <|
      lt (((((Xj ++ Xk) ++ Xl) ++ Xm) ++ Xn)) fun (Xo : List UInt8) =>
      .ok Xo)
def zz.m (K : Nat) (Xd : Int) (Xe : Int) : qQ (List UInt8) :=
  zz.l1 K Xd Xe K (1 : Int) (0 : Int)
def zd.m (K : Nat) (Xd : (List Int)) : qQ (List UInt8) :=
  lt ((Xd.map jt)) fun (Xe : List UInt8) =>
  .ok Xe
def qK.j3 (K : Nat) (kind7 : Int) (l_8 : List qb) (Xd : (List Int)) (Xg : (List Int)) : qQ ((List UInt8) × Int) :=
  (zz.m K kind7 (l_8.length : Int)).bind fun Xe =>
  (zd.m K Xd).bind fun Xf =>
  z2 (xC (Xe.length + Xf.length)) <|
  (zd.m K Xg).bind fun Xh =>
  z2 (xC ((Xe ++ Xf).length + Xh.length)) <|
  lt (((Xe ++ Xf) ++ Xh)) fun (Xi : List UInt8) =>
  .ok (Xi, (0 : Int))
def qK.l2 (K : Nat) (kind7 : Int) (l_8 : List qb) (Xe : Int) : Nat → (List Int) → (List Int) → Int → qQ ((List UInt8) × Int)
  | 0, _, _, _ => .fail
  | k + 1, Xf, Xg, Xd =>
    cond (decide (Xd < (l_8.length : Int)))
      (
      z2 (inb Xd l_8.length) <|
      (zr.m K ((rd l_8 Xd).Data_)).bind fun Xn =>
      (yr.m K (wr .i64 Xn)).bind fun Xh =>
      z2 (xC (((rd l_8 Xd).Tag_).length + Xh.length)) <|
      (zD.m K Xg).bind fun Xo =>
      (yr.m K (qB (Xe + Xo))).bind fun Xi =>
      z2 (xC (((rd l_8 Xd).Tag_ ++ Xh).length + Xi.length)) <|
      (yr.m K (((rd l_8 Xd).Data_).length : Int)).bind fun Xl =>
      z2 (xC ((((rd l_8 Xd).Tag_ ++ Xh) ++ Xi).length + Xl.length)) <|
      (q5.m K Xf ((((rd l_8 Xd).Tag_ ++ Xh) ++ Xi) ++ Xl)).bind fun (Xq, Xj) =>
      (zN.m K (((rd l_8 Xd).Data_).length : Int)).bind fun Xp =>
      (strings_Repeat.m K ([0] : List UInt8) (qB (Xp - (((rd l_8 Xd).Data_).length : Int)))).bind fun Xm =>
      z2 (xC (((rd l_8 Xd).Data_).length + Xm.length)) <|
      (q5.m K Xg ((rd l_8 Xd).Data_ ++ Xm)).bind fun (Xr, Xk) =>
      qK.l2 K kind7 l_8 Xe k Xj Xk (qB (Xd + (1 : Int))))
      (
      qK.j3 K kind7 l_8 Xf Xg)
def qK.j1 (K : Nat) (kind7 : Int) (l_8 : List qb) (Xe : Bool) : qQ ((List UInt8) × Int) :=
  cond Xe
    (
    .ok (([] : List UInt8), (1 : Int)))
    (
    lt ((qB ((12 : Int) + (qB ((16 : Int) * (l_8.length : Int)))))) fun (Xd : Int) =>
    qK.l2 K kind7 l_8 Xd K ([] : List Int) ([] : List Int) (0 : Int))
def qK.m (K : Nat) (kind7 : Int) (l_8 : List qb) : qQ ((List UInt8) × Int) :=
  (xw.m K kind7).bind fun Xd =>
  cond ((!Xd) || (decide ((l_8.length : Int) > (1000 : Int))))
    (
    qK.j1 K kind7 l_8 true)
    (
    (qH.m K l_8).bind fun Xe =>
    qK.j1 K kind7 l_8 (!Xe))
def v6.m (K : Nat) (Xd : List UInt8) : qQ Unit :=
  .ok ()
def zW.m (K : Nat) : qQ Unit :=
  .ok ()
def zx.m (K : Nat) (Xe : qn) (Xd : Int) (Xf : Int) : qQ ((List UInt8) × Int × Int) :=
  cond ((decide (Xd < (0 : Int))) || (decide (Xf < (0 : Int))))
    (
    .ok (([] : List UInt8), (0 : Int), (1 : Int)))
    (
    cond ((decide (Xd > (Xe.text_.length : Int))) || (decide (Xf > (qB ((Xe.text_.length : Int) - Xd)))))
      (
      .ok (([] : List UInt8), (0 : Int), (2 : Int)))
      (
      z2 (subok Xd (qB (Xd + Xf)) Xe.text_.length) <|
      .ok ((sub Xe.text_ Xd (qB (Xd + Xf))), (qB (Xe.base_ + Xd)), (0 : Int))))
def qJ.l1 (K : Nat) (Xd : Int) (Xe : List UInt8) : Nat → Int → Int → qQ (Int × Int)
  | 0, _, _ => .fail
  | k + 1, Xg, Xf =>
    cond (decide (Xf < Xd))
      (
      (zE.m K Xf Xd).bind fun Xi =>
      z2 (inb Xi Xe.length) <|
      z2 (decide (0 ≤ (qB ((8 : Int) * Xf)))) <|
      lt ((Zj .u64 Xg (jM .u64 (wr .u64 ((rd Xe Xi).toNat : Int)) (qB ((8 : Int) * Xf))))) fun (Xh : Int) =>
      qJ.l1 K Xd Xe k Xh (qB (Xf + (1 : Int))))
      (
      .ok (Xg, (0 : Int)))
def qJ.m (K : Nat) (Xg : qn) (Xf : Int) (Xd : Int) : qQ (Int × Int) :=
  (xx.m K Xd).bind fun Xj =>
  cond (!Xj)
    (
    .ok ((0 : Int), (1 : Int)))
    (
    (zx.m K Xg Xf Xd).bind fun (Xe, Xi, Xh) =>
    cond (Xh != (0 : Int))
      (
      .ok ((0 : Int), Xh))
      (
      (zO.m K Xd).bind fun _ =>
      qJ.l1 K Xd Xe K (0 : Int) (0 : Int)))
def zt.m (K : Nat) (Xd : qn) : qQ Unit :=
  .ok ()
def xd.m (K : Nat) (Xe : Int) (Xd : Int) : qQ Bool :=
  lt ((((decide (Xe ≥ (0 : Int))) && (decide (Xe < Xd))) && (decide (Xd ≤ (4611686018427387904 : Int))))) fun (Xf : Bool) =>
  .ok Xf
def zb.m (K : Nat) (Xd : qv) : qQ Unit :=
  .ok ()
def q6.m (K : Nat) (Xf : Int) (Xd : (List qa)) (Xe : Int) : qQ Bool :=
  z2 (inb Xf Xd.length) <|
  lt ((decide ((rd Xd Xf).span_.Hi_ > Xe))) fun (Xg : Bool) =>
  .ok Xg
def qF.l1 (K : Nat) (Xh : qv) (Xd : Int) : Nat → Int → Int → qQ Int
  | 0, _, _ => .fail
  | k + 1, Xf, Xg =>
    cond (decide (Xf < Xg))
      (
      lt ((y9 .i64 (qB (Xf + Xg)) (2 : Int))) fun (Xe : Int) =>
      (q6.m K Xe Xh.items_ Xd).bind fun Xj =>
      cond Xj
        (
        qF.l1 K Xh Xd k Xf Xe)
        (
        lt ((qB (Xe + (1 : Int)))) fun (Xi : Int) =>
        qF.l1 K Xh Xd k Xi Xg))
      (
      .ok Xf)
def qF.m (K : Nat) (Xe : qv) (Xd : Int) : qQ Int :=
  (zb.m K Xe).bind fun _ =>
  lt ((Xe.items_.length : Int)) fun (Xf : Int) =>
  qF.l1 K Xe Xd K (0 : Int) Xf
def qu.j2 (K : Nat)  (Xd : Bool) : qQ Bool :=
  .ok Xd
def qu.j1 (K : Nat) (Xd : qv) (Xe : Int) (Xf : Int) (Xg : Bool) : qQ Bool :=
  cond Xg
    (
    (zb.m K Xd).bind fun _ =>
    z2 (inb Xf Xd.items_.length) <|
    qu.j2 K (decide ((rd Xd.items_ Xf).span_.Lo_ < Xe)))
    (
    qu.j2 K false)
def qu.m (K : Nat) (Xe : qv) (Xf : Int) (Xd : Int) : qQ Bool :=
  (qF.m K Xe Xf).bind fun Xg =>
  (xd.m K Xf Xd).bind fun Xh =>
  cond Xh
    (
    (zb.m K Xe).bind fun _ =>
    qu.j1 K Xe Xd Xg (decide (Xg < (Xe.items_.length : Int))))
    (
    qu.j1 K Xe Xd Xg false)
def qy.m (K : Nat) (Xf : List qa) (Xe : Int) (Xg : List qa) : qQ (List qa) :=
  (Qj 32 Xf Xe Xg).bind fun Xd =>
  .ok Xd
def zn.m (K : Nat) (Xf : qv) (Xd : Int) (Xe : Int) (Xh : List UInt8) : qQ (Int × (List qa)) :=
  (xd.m K Xd Xe).bind fun Xi =>
  lt ((!Xi)) fun (Xg : Bool) =>
  cond Xg
    (
    .ok ((1 : Int), Xf.items_))
    (
    (qu.m K Xf Xd Xe).bind fun Xj =>
    cond Xj
      (
      .ok ((5 : Int), Xf.items_))
      (
      (qF.m K Xf Xd).bind fun Xk =>
      (qy.m K Xf.items_ Xk ([(qa.mk (q3.mk Xd Xe) Xh)] : List qa)).bind fun Xl =>
      .ok ((0 : Int), Xl)))
def qW.l1 (K : Nat) (Xe : Int) : Nat → (List UInt8) → qQ (List UInt8)
  | 0, _ => .fail
  | k + 1, Xd =>
    z2 (imp true (decide ((Xd.length : Int) > (0 : Int))) (inb (qB ((Xd.length : Int) - (1 : Int))) Xd.length)) <|
    cond ((decide ((Xd.length : Int) > (0 : Int))) && (((rd Xd (qB ((Xd.length : Int) - (1 : Int)))).toNat : Int) == Xe))
      (
      z2 (subok (0 : Int) (qB ((Xd.length : Int) - (1 : Int))) Xd.length) <|
      lt ((sub Xd (0 : Int) (qB ((Xd.length : Int) - (1 : Int))))) fun (Xf : List UInt8) =>
      qW.l1 K Xe k Xf)
      (
      .ok Xd)
def qW.m (K : Nat) (Xe : List UInt8) (Xd : Int) : qQ (List UInt8) :=
  qW.l1 K Xd K Xe
def qZ.l1 (K : Nat) (Xe : Int) : Nat → (List UInt8) → qQ (List UInt8)
  | 0, _ => .fail
  | k + 1, Xd =>
    z2 (imp true (decide ((Xd.length : Int) > (0 : Int))) (inb (0 : Int) Xd.length)) <|
    cond ((decide ((Xd.length : Int) > (0 : Int))) && (((rd Xd (0 : Int)).toNat : Int) == Xe))
      (
      z2 (subok (1 : Int) (Xd.length : Int) Xd.length) <|
      lt ((sub Xd (1 : Int) (Xd.length : Int))) fun (Xf : List UInt8) =>
      qZ.l1 K Xe k Xf)
      (
      .ok Xd)
def qZ.m (K : Nat) (Xe : List UInt8) (Xd : Int) : qQ (List UInt8) :=
  qZ.l1 K Xd K Xe
def xg.m (K : Nat) (Xd : List UInt8) : qQ (List UInt8) :=
  cond ((Xd == ([] : List UInt8)) || false)
    (
    .ok Xd)
    (
    z2 (inb (0 : Int) ([0] : List UInt8).length) <|
    (qW.m K Xd (0 : Int)).bind fun Xe =>
    (qZ.m K Xe (0 : Int)).bind fun Xf =>
    .ok Xf)
def xL.m (K : Nat) (Xd : qn) : qQ Int :=
  lt ((Xd.text_.length : Int)) fun (Xe : Int) =>
  .ok Xe
def qR.j2 (K : Nat) (Xf : List UInt8) (Xg : Int) (Xe : List UInt8) (Xd : (List qa)) : qQ ((List UInt8) × (List UInt8) × Int × (List qa)) :=
  (zr.m K Xe).bind fun Xh =>
  cond (Xh != (wr .u32 Xg))
    (
    .ok (([] : List UInt8), ([] : List UInt8), (4 : Int), Xd))
    (
    .ok (Xf, Xe, (0 : Int), Xd))
def qR.j1 (K : Nat) (Xj : zZ) (Xg : List UInt8) (Xl : Int) (Xm : Int) (Xi : Int) (Xd : List UInt8) (Xe : Int) (Xk : Int) : qQ ((List UInt8) × (List UInt8) × Int × (List qa)) :=
  cond (Xk != (0 : Int))
    (
    .ok (([] : List UInt8), ([] : List UInt8), Xk, Xj.claims_.items_))
    (
    (zt.m K (qn.mk Xd Xe)).bind fun _ =>
    z2 (subok (0 : Int) Xi Xd.length) <|
    lt ((sub Xd (0 : Int) Xi)) fun (Xh : List UInt8) =>
    (zt.m K (qn.mk Xd Xe)).bind fun _ =>
    z2 (subok Xi (Xd.length : Int) Xd.length) <|
    (xg.m K (sub Xd Xi (Xd.length : Int))).bind fun Xo =>
    cond (!(Xo == ([] : List UInt8)))
      (
      .ok (([] : List UInt8), ([] : List UInt8), (3 : Int), Xj.claims_.items_))
      (
      cond (decide (Xi > (0 : Int)))
        (
        (xL.m K (qn.mk Xd Xe)).bind fun Xp =>
        (zn.m K Xj.claims_ (wr .i64 Xm) (qB ((wr .i64 Xm) + Xp)) Xg).bind fun (Xn, Xf) =>
        cond (Xn != (0 : Int))
          (
          .ok (([] : List UInt8), ([] : List UInt8), Xn, Xf))
          (
          qR.j2 K Xg Xl Xh Xf))
        (
        qR.j2 K Xg Xl Xh Xj.claims_.items_)))
def qR.m (K : Nat) (Xg : zZ) (Xd : qn) : qQ ((List UInt8) × (List UInt8) × Int × (List qa)) :=
  (zt.m K Xd).bind fun _ =>
  z2 (subok (0 : Int) (4 : Int) Xd.text_.length) <|
  lt ((sub Xd.text_ (0 : Int) (4 : Int))) fun (Xh : List UInt8) =>
  (qJ.m K Xd (4 : Int) (4 : Int)).bind fun (Xk, Xn) =>
  (qJ.m K Xd (8 : Int) (4 : Int)).bind fun (Xi, Xo) =>
  (qJ.m K Xd (12 : Int) (4 : Int)).bind fun (Xj, Xp) =>
  cond (((jr .u64 Xi (3 : Int)) != (0 : Int)) || (decide (Xj > (16777216 : Int))))
    (
    .ok (([] : List UInt8), ([] : List UInt8), (3 : Int), Xg.claims_.items_))
    (
    (zN.m K (wr .i64 Xj)).bind fun Xl =>
    (zx.m K Xg.Window_ (wr .i64 Xi) Xl).bind fun (Xf, Xe, Xm) =>
    qR.j1 K Xg Xh Xk Xi Xj Xf Xe Xm)
def q7.j3 (K : Nat) (Xg : Int) (Xe : (List qb)) (Xd : Int) : qQ (Int × (List qb) × Int) :=
  cond (decide (Xd ≥ (1073741824 : Int)))
    (
    .ok ((0 : Int), ([] : List qb), (3 : Int)))
    (
    lt ((wr .u32 Xg)) fun (Xf : Int) =>
    .ok (Xf, Xe, (0 : Int)))
def q7.l2 (K : Nat) (Xs : List UInt8) (Xt : Int) (Xp : Int) (Xk : List UInt8) (Xh : Int) : Nat → (List qa) → (List qb) → Int → (List UInt8) → Int → qQ (Int × (List qb) × Int)
  | 0, _, _, _, _, _ => .fail
  | k + 1, Xm, Xo, Xl, Xj, Xr =>
    cond (decide (Xr < Xp))
      (
      (zx.m K (qn.mk Xk Xh) (qB ((16 : Int) * Xr)) (16 : Int)).bind fun (Xd, Xi, Xy) =>
      (zt.m K (qn.mk Xd Xi)).bind fun _ =>
      z2 (subok (0 : Int) (4 : Int) Xd.length) <|
      lt ((sub Xd (0 : Int) (4 : Int))) fun (Xf : List UInt8) =>
      (zh.m K Xf).bind fun Xw =>
      cond ((!Xw) || (Op.bytesLess Xf Xj || Xf == Xj))
        (
        .ok ((0 : Int), ([] : List qb), (3 : Int)))
        (
        (qR.m K (zZ.mk (qn.mk Xs (0 : Int)) (qv.mk Xm)) (qn.mk Xd Xi)).bind fun (Xg, Xe, Xu, Xn) =>
        cond (Xu != (0 : Int))
          (
          .ok ((0 : Int), ([] : List qb), Xu))
          (
          (zN.m K (Xe.length : Int)).bind fun Xx =>
          lt ((qB (Xl + Xx))) fun (Xq : Int) =>
          z2 (room (Xo.length + ([(qb.mk Xg Xe)] : List qb).length) 32) <|
          lt (Xo ++ ([(qb.mk Xg Xe)] : List qb)) fun (Xv : (List qb)) =>
          q7.l2 K Xs Xt Xp Xk Xh k Xn Xv Xq Xg (qB (Xr + (1 : Int))))))
      (
      q7.j3 K Xt Xo Xl)
def q7.j1 (K : Nat) (Xh : List UInt8) (Xk : Int) (Xe : Int) (Xj : Bool) : qQ (Int × (List qb) × Int) :=
  cond Xj
    (
    .ok ((0 : Int), ([] : List qb), (3 : Int)))
    (
    (zx.m K (qn.mk Xh (0 : Int)) (12 : Int) (qB ((16 : Int) * Xe))).bind fun (Xg, Xf, Xi) =>
    cond (Xi != (0 : Int))
      (
      .ok ((0 : Int), ([] : List qb), Xi))
      (
      (zn.m K (qv.mk ([] : List qa)) (0 : Int) (qB ((12 : Int) + (qB ((16 : Int) * Xe)))) ([] : List UInt8)).bind fun (Xl, Xd) =>
      q7.l2 K Xh Xk Xe Xg Xf K Xd ([] : List qb) (0 : Int) ([] : List UInt8) (0 : Int)))
def q7.m (K : Nat) (Xg : List UInt8) : qQ (Int × (List qb) × Int) :=
  (v6.m K Xg).bind fun _ =>
  (zW.m K).bind fun _ =>
  (zx.m K (qn.mk Xg (0 : Int)) (0 : Int) (12 : Int)).bind fun (Xd, Xe, Xi) =>
  cond (Xi != (0 : Int))
    (
    .ok ((0 : Int), ([] : List qb), Xi))
    (
    (qJ.m K (qn.mk Xd Xe) (0 : Int) (4 : Int)).bind fun (Xh, Xm) =>
    (qJ.m K (qn.mk Xd Xe) (4 : Int) (2 : Int)).bind fun (Xj, Xn) =>
    lt ((wr .i64 Xj)) fun (Xf : Int) =>
    (xw.m K (wr .u32 Xh)).bind fun Xk =>
    cond (((!Xk) || (decide (Xf < (1 : Int)))) || (decide (Xf > (1000 : Int))))
      (
      q7.j1 K Xg Xh Xf true)
      (
      (zt.m K (qn.mk Xd Xe)).bind fun _ =>
      (zz.m K (wr .u32 Xh) Xf).bind fun Xl =>
      q7.j1 K Xg Xh Xf (!(Xd == Xl))))
def qL.l1 (K : Nat) (Xd : List qb) (Xf : List qb) : Nat → Int → qQ Bool
  | 0, _ => .fail
  | k + 1, Xe =>
    cond (decide (Xe < (Xd.length : Int)))
      (
      z2 (inb Xe Xd.length) <|
      z2 (inb Xe Xf.length) <|
      cond (!(((rd Xd Xe).Tag_ == (rd Xf Xe).Tag_) && (((rd Xd Xe).Data_ == (rd Xf Xe).Data_) && true)))
        (
        .ok false)
        (
        lt ((qB (Xe + (1 : Int)))) fun (Xg : Int) =>
        qL.l1 K Xd Xf k Xg))
      (
      .ok true)
def qL.m (K : Nat) (Xd : List qb) (Xe : List qb) : qQ Bool :=
  cond ((Xd.length : Int) != (Xe.length : Int))
    (
    .ok false)
    (
    qL.l1 K Xd Xe K (0 : Int))
def qU.j1 (K : Nat) (Xf : Int) (Xg : Int) (Xd : Bool) : qQ Bool :=
  lt (((Xd && (Xf == (2 : Int))) && (Xg == (1 : Int)))) fun (Xe : Bool) =>
  .ok Xe
def qU.m (K : Nat) : qQ Bool :=
  (qK.m K (65536 : Int) ([(qb.mk ([104, 101, 97, 100] : List UInt8) ([97, 98, 99, 100, 101] : List UInt8))] : List qb)).bind fun (Xe, Xh) =>
  (q7.m K Xe).bind fun (Xi, Xj, Xk) =>
  (q7.m K ([] : List UInt8)).bind fun (Xl, Xm, Xf) =>
  (qK.m K (7 : Int) ([(qb.mk ([104, 101, 97, 100] : List UInt8) ([97, 98, 99, 100, 101] : List UInt8))] : List qb)).bind fun (Xn, Xg) =>
  cond (((((Xe.length : Int) == (36 : Int)) && (Xh == (0 : Int))) && (Xi == (65536 : Int))) && (Xk == (0 : Int)))
    (
    (qL.m K ([(qb.mk ([104, 101, 97, 100] : List UInt8) ([97, 98, 99, 100, 101] : List UInt8))] : List qb) Xj).bind fun Xd =>
    qU.j1 K Xf Xg Xd)
    (
    qU.j1 K Xf Xg false)
def zI.m (K : Nat) (Xd : Int) : qQ Bool :=
  lt (((((Xd == (1 : Int)) || (Xd == (2 : Int))) || (Xd == (4 : Int))) || (Xd == (8 : Int)))) fun (Xe : Bool) =>
  .ok Xe
def zJ.m (K : Nat) (Xd : Int) : qQ Bool :=
  lt (((Xd == (65536 : Int)) || (Xd == (1330926671 : Int)))) fun (Xe : Bool) =>
  .ok Xe
def qh.j2 (K : Nat) (g1 : Int → (List Int) → Int → qQ ((List UInt8) × Int)) (Xf : Int) (Xe : (List Int)) (Xi : Int) (Xd : Int) : qQ ((List UInt8) × Int) :=
  z2 (inb Xd Xe.length) <|
  lt (Xe.set (Int.toNat Xd) (wr .u8 (ja Xf (256 : Int)))) fun (Xh : (List Int)) =>
  lt ((y9 .u64 Xf (256 : Int))) fun (Xg : Int) =>
  lt ((qB (Xi + (1 : Int)))) fun (Xj : Int) =>
  g1 Xg Xh Xj
def qh.j3 (K : Nat)  (Xe : Int) (Xd : (List Int)) : qQ ((List UInt8) × Int) :=
  cond (decide (Xe > (0 : Int)))
    (
    .ok (([] : List UInt8), (10 : Int)))
    (
    lt ((Xd.map jt)) fun (Xf : List UInt8) =>
    .ok (Xf, (0 : Int)))
def qh.l1 (K : Nat) (Xd : Int) (Xe : Bool) : Nat → Int → (List Int) → Int → qQ ((List UInt8) × Int)
  | 0, _, _, _ => .fail
  | k + 1, Xh, Xg, Xf =>
    cond (decide (Xf < Xd))
      (
      cond Xe
        (
        lt ((qB ((qB (Xd - (1 : Int))) - Xf))) fun (Xi : Int) =>
        qh.j2 K (qh.l1 K Xd Xe k) Xh Xg Xf Xi)
        (
        qh.j2 K (qh.l1 K Xd Xe k) Xh Xg Xf Xf))
      (
      qh.j3 K Xh Xg)
def qh.m (K : Nat) (Xf : Int) (Xd : Int) (Xe : Bool) : qQ ((List UInt8) × Int) :=
  (zI.m K Xd).bind fun Xh =>
  cond (!Xh)
    (
    .ok (([] : List UInt8), (1 : Int)))
    (
    z2 (decide (0 ≤ Xd) && room (Int.toNat Xd) 1) <|
    lt (List.replicate (Int.toNat Xd) (0 : Int)) fun (Xg : (List Int)) =>
    qh.l1 K Xd Xe K Xf Xg (0 : Int))
def zl.m (K : Nat) (Xd : Int) : qQ (List UInt8) :=
  (qh.m K (wr .u64 Xd) (4 : Int) true).bind fun (Xe, Xf) =>
  .ok Xe
def zk.m (K : Nat) (Xd : Int) : qQ (List UInt8) :=
  (qh.m K (wr .u64 Xd) (2 : Int) true).bind fun (Xe, Xf) =>
  .ok Xe
def qA.j2 (K : Nat) (Xg : Int) (Xh : Int) (Xj : Int) (Xl : Int) : qQ (List UInt8) :=
  (zl.m K (wr .i64 Xg)).bind fun Xd =>
  (zk.m K Xh).bind fun Xe =>
  z2 (xC (Xd.length + Xe.length)) <|
  (zk.m K (qB ((16 : Int) * Xj))).bind fun Xf =>
  z2 (xC ((Xd ++ Xe).length + Xf.length)) <|
  (zk.m K Xl).bind fun Xi =>
  z2 (xC (((Xd ++ Xe) ++ Xf).length + Xi.length)) <|
  (zk.m K (qB ((16 : Int) * (qB (Xh - Xj))))).bind fun Xk =>
  z2 (xC ((((Xd ++ Xe) ++ Xf) ++ Xi).length + Xk.length)) <|
  lt (((((Xd ++ Xe) ++ Xf) ++ Xi) ++ Xk)) fun (Xm : List UInt8) =>
  .ok Xm
def qA.l1 (K : Nat) (Xd : Int) (Xe : Int) : Nat → Int → Int → qQ (List UInt8)
  | 0, _, _ => .fail
  | k + 1, Xg, Xf =>
    cond (decide ((qB ((2 : Int) * Xg)) ≤ Xe))
      (
      lt ((qB ((2 : Int) * Xg))) fun (Xi : Int) =>
      lt ((qB (Xf + (1 : Int)))) fun (Xh : Int) =>
      qA.l1 K Xd Xe k Xi Xh)
      (
      qA.j2 K Xd Xe Xg Xf)
def qA.m (K : Nat) (Xd : Int) (Xe : Int) : qQ (List UInt8) :=
  qA.l1 K Xd Xe K (1 : Int) (0 : Int)
def qX.l1 (K : Nat) (Xd : List UInt8) : Nat → Int → qQ Bool
  | 0, _ => .fail
  | k + 1, Xe =>
    cond (decide (Xe < (Xd.length : Int)))
      (
      z2 (inb Xe Xd.length) <|
      cond ((decide (((rd Xd Xe).toNat : Int) < (32 : Int))) || (decide (((rd Xd Xe).toNat : Int) > (126 : Int))))
        (
        .ok false)
        (
        lt ((qB (Xe + (1 : Int)))) fun (Xf : Int) =>
        qX.l1 K Xd k Xf))
      (
      lt (((Xd.length : Int) == (4 : Int))) fun (Xg : Bool) =>
      .ok Xg)
def qX.m (K : Nat) (Xd : List UInt8) : qQ Bool :=
  qX.l1 K Xd K (0 : Int)
def zv.m (K : Nat) (Xd : Int) : qQ Int :=
  lt ((qB ((y9 .i64 (qB (Xd + (3 : Int))) (4 : Int)) * (4 : Int)))) fun (Xe : Int) =>
  .ok Xe
def qs.l2 (K : Nat) (g1 : Int → Int → qQ Int) (Xf : Int) (Xg : Int) : Nat → Int → Int → qQ Int
  | 0, _, _ => .fail
  | k + 1, Xd, Xe =>
    cond (decide (Xe < (3 : Int)))
      (
      lt ((wr .u32 (Xd * (256 : Int)))) fun (Xh : Int) =>
      lt ((qB (Xe + (1 : Int)))) fun (Xi : Int) =>
      qs.l2 K g1 Xf Xg k Xh Xi)
      (
      lt ((wr .u32 (Xf + Xd))) fun (Xj : Int) =>
      lt ((qB (Xg + (1 : Int)))) fun (Xk : Int) =>
      g1 Xj Xk)
def qs.l1 (K : Nat) (Xe : List UInt8) : Nat → Int → Int → qQ Int
  | 0, _, _ => .fail
  | k + 1, Xf, Xd =>
    cond (decide (Xd < (Xe.length : Int)))
      (
      z2 (inb Xd Xe.length) <|
      lt ((wr .u32 ((rd Xe Xd).toNat : Int))) fun (Xg : Int) =>
      lt ((ja Xd (4 : Int))) fun (Xh : Int) =>
      qs.l2 K (qs.l1 K Xe k) Xf Xd K Xg Xh)
      (
      .ok Xf)
def qs.m (K : Nat) (Xd : List UInt8) : qQ Int :=
  qs.l1 K Xd K (0 : Int) (0 : Int)
def qM.l1 (K : Nat) (Xd : List qb) : Nat → Int → Int → qQ Bool
  | 0, _, _ => .fail
  | k + 1, Xf, Xe =>
    cond (decide (Xe < (Xd.length : Int)))
      (
      z2 (inb Xe Xd.length) <|
      cond ((decide ((((rd Xd Xe).Data_).length : Int) > (5000 : Int))) || (decide (Xf > (100000 : Int))))
        (
        .ok false)
        (
        lt ((qB (Xf + (((rd Xd Xe).Data_).length : Int)))) fun (Xg : Int) =>
        lt ((qB (Xe + (1 : Int)))) fun (Xh : Int) =>
        qM.l1 K Xd k Xg Xh))
      (
      .ok true)
def qM.m (K : Nat) (Xd : List qb) : qQ Bool :=
  cond (decide ((Xd.length : Int) > (1001 : Int)))
    (
    .ok false)
    (
    qM.l1 K Xd K (0 : Int) (0 : Int))
def qj.j2 (K : Nat) (g1 : Int → Int → qQ Bool) (Xe : List qb) (Xg : Int) (Xd : Int) (Xi : Bool) : qQ Bool :=
  cond Xi
    (
    .ok false)
    (
    z2 (inb Xd Xe.length) <|
    (zv.m K (((rd Xe Xd).Data_).length : Int)).bind fun Xj =>
    lt ((qB (Xg + Xj))) fun (Xf : Int) =>
    cond (decide (Xf ≥ (1073741824 : Int)))
      (
      .ok false)
      (
      lt ((qB (Xd + (1 : Int)))) fun (Xh : Int) =>
      g1 Xf Xh))
def qj.l1 (K : Nat) (Xd : List qb) : Nat → Int → Int → qQ Bool
  | 0, _, _ => .fail
  | k + 1, Xf, Xe =>
    cond (decide (Xe < (Xd.length : Int)))
      (
      z2 (inb Xe Xd.length) <|
      (qX.m K ((rd Xd Xe).Tag_)).bind fun Xg =>
      cond Xg
        (
        cond (decide (Xe > (0 : Int)))
          (
          z2 (inb (qB (Xe - (1 : Int))) Xd.length) <|
          cond (!Op.bytesLess (rd Xd (qB (Xe - (1 : Int)))).Tag_ (rd Xd Xe).Tag_)
            (
            qj.j2 K (qj.l1 K Xd k) Xd Xf Xe true)
            (
            qj.j2 K (qj.l1 K Xd k) Xd Xf Xe (decide ((((rd Xd Xe).Data_).length : Int) > (16777216 : Int)))))
          (
          qj.j2 K (qj.l1 K Xd k) Xd Xf Xe (decide ((((rd Xd Xe).Data_).length : Int) > (16777216 : Int)))))
        (
        qj.j2 K (qj.l1 K Xd k) Xd Xf Xe true))
      (
      .ok true)
def qj.m (K : Nat) (Xd : List qb) : qQ Bool :=
  cond ((decide ((Xd.length : Int) < (1 : Int))) || (decide ((Xd.length : Int) > (1000 : Int))))
    (
    .ok false)
    (
    qj.l1 K Xd K (0 : Int) (0 : Int))
def qd.l3 (K : Nat) (g2 : (List Int) → (List Int) → Int → qQ ((List UInt8) × Int)) (Xf : Int) (Xe : (List Int)) : Nat → (List Int) → qQ ((List UInt8) × Int)
  | 0, _ => .fail
  | k + 1, Xd =>
    cond ((ja (Xd.length : Int) (4 : Int)) != (0 : Int))
      (
      z2 (room (Xd.length + ([(0 : Int)] : List Int).length) 1) <|
      lt (Xd ++ ([(0 : Int)] : List Int)) fun (Xg : (List Int)) =>
      qd.l3 K g2 Xf Xe k Xg)
      (
      lt ((qB (Xf + (1 : Int)))) fun (Xh : Int) =>
      g2 Xe Xd Xh)
def qd.j4 (K : Nat)  (Xd : (List Int)) (Xe : (List Int)) : qQ ((List UInt8) × Int) :=
  z2 (room (Xd.length + Xe.length) 1) <|
  lt (Xd ++ Xe) fun (Xf : (List Int)) =>
  lt ((Xf.map jt)) fun (Xg : List UInt8) =>
  .ok (Xg, (0 : Int))
def qd.l2 (K : Nat) (Xd : List qb) (Xg : Int) : Nat → (List Int) → (List Int) → Int → qQ ((List UInt8) × Int)
  | 0, _, _, _ => .fail
  | k + 1, Xf, Xh, Xe =>
    cond (decide (Xe < (Xd.length : Int)))
      (
      z2 (inb Xe Xd.length) <|
      (qs.m K ((rd Xd Xe).Data_)).bind fun Xn =>
      (zl.m K (wr .i64 Xn)).bind fun Xi =>
      z2 (xC (((rd Xd Xe).Tag_).length + Xi.length)) <|
      (zl.m K (qB (Xg + (Xh.length : Int)))).bind fun Xj =>
      z2 (xC (((rd Xd Xe).Tag_ ++ Xi).length + Xj.length)) <|
      (zl.m K (((rd Xd Xe).Data_).length : Int)).bind fun Xk =>
      z2 (xC ((((rd Xd Xe).Tag_ ++ Xi) ++ Xj).length + Xk.length)) <|
      z2 (room (Xf.length + ((((rd Xd Xe).Tag_ ++ Xi) ++ Xj) ++ Xk).length) 1) <|
      lt (Xf ++ ((((rd Xd Xe).Tag_ ++ Xi) ++ Xj) ++ Xk).map xK) fun (Xl : (List Int)) =>
      z2 (room (Xh.length + ((rd Xd Xe).Data_).length) 1) <|
      lt (Xh ++ ((rd Xd Xe).Data_).map xK) fun (Xm : (List Int)) =>
      qd.l3 K (qd.l2 K Xd Xg k) Xe Xl K Xm)
      (
      qd.j4 K Xf Xh)
def qd.j1 (K : Nat) (Xf : Int) (Xd : List qb) (Xi : Bool) : qQ ((List UInt8) × Int) :=
  cond Xi
    (
    .ok (([] : List UInt8), (1 : Int)))
    (
    (qA.m K Xf (Xd.length : Int)).bind fun Xg =>
    z2 (xC Xg.length) <|
    lt (Xg.map xK) fun (Xh : (List Int)) =>
    lt ((qB ((12 : Int) + (qB ((16 : Int) * (Xd.length : Int)))))) fun (Xe : Int) =>
    qd.l2 K Xd Xe K Xh ([] : List Int) (0 : Int))
def qd.m (K : Nat) (Xd : Int) (Xe : List qb) : qQ ((List UInt8) × Int) :=
  (zJ.m K Xd).bind fun Xf =>
  cond (!Xf)
    (
    qd.j1 K Xd Xe true)
    (
    (qj.m K Xe).bind fun Xg =>
    qd.j1 K Xd Xe (!Xg))
def qo.j2 (K : Nat)  (Xd : Bool) : qQ Bool :=
  .ok Xd
def qo.j1 (K : Nat)  (Xd : Bool) : qQ Bool :=
  cond Xd
    (
    (qU.m K).bind fun Xe =>
    qo.j2 K Xe)
    (
    qo.j2 K false)
def qo.m (K : Nat) (Xe : Int) (Xd : List qb) : qQ Bool :=
  (qM.m K Xd).bind fun Xg =>
  cond (!Xg)
    (
    (qU.m K).bind fun Xh =>
    .ok Xh)
    (
    z2 (room (([] : List qb).length + Xd.length) 32) <|
    lt (([] : List qb) ++ Xd) fun (Xf : (List qb)) =>
    (qK.m K Xe Xf).bind fun (Xi, Xj) =>
    (qd.m K Xe Xd).bind fun (Xk, Xl) =>
    cond ((Xi == Xk) && (Xj == Xl))
      (
      (qL.m K Xf Xd).bind fun Xm =>
      qo.j1 K Xm)
      (
      qo.j1 K false))
end Go.Mo
