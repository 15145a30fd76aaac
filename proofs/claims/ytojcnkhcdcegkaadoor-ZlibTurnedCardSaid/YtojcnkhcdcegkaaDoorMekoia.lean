/- Models of the Go functions that this statement reaches, printed by a program of mine: nothing is proved but lengths of tables. -/
import Derived.Test.YtojcnkhcdcegkaaDoorOwnalmbb
set_option linter.unusedVariables false
set_option linter.unusedSimpArgs false
namespace Go.Mo
open Go Go.Sl
structure yf where
  text_ : List UInt8
  base_ : Int
  deriving Inhabited
structure qr where
  at_ : Int
  deriving Inhabited
structure qG where
  place_ : qr
  text_ : List UInt8
  deriving Inhabited
structure qx where
  Reader_ : qG
  out_ : (List Int)
  limit_ : Int
  deriving Inhabited
structure qH where
  counts_ : (List Int)
  symbols_ : (List Int)
  deriving Inhabited
structure xB where
  from_ : Int
  bits_ : Int
  deriving Inhabited
structure qM where
  Lit_ : Int
  Len_ : Int
  Dist_ : Int
  deriving Inhabited
structure xn where
  text_ : List UInt8
  seen_ : (List ((List Int) × (List Int)))
  deriving Inhabited
structure qS where
  place_ : qr
  bytes_ : (List Int)
  deriving Inhabited
structure qv where
  lengths_ : (List Int)
  codes_ : (List Int)
  deriving Inhabited
structure qp where
  Writer_ : qS
  literals_ : qv
  distances_ : qv
  deriving Inhabited
structure xV where
  symbol_ : Int
  bits_ : Int
  more_ : Int
  deriving Inhabited
structure qb where
  often_ : Int
  symbols_ : (List Int)
  deriving Inhabited
structure qi where
  symbol_ : Int
  more_ : Int
  bits_ : Int
  deriving Inhabited
abbrev QQ : TypeId := 9
abbrev xD : TypeId := 92
def tab_deflate_order : List Int := [16, 17, 18, 0, 8, 7, 9, 6, 10, 5, 11, 4, 12, 3, 13, 2, 14, 1, 15]
theorem Qi : tab_deflate_order.length = 19 := by decide
def tab_inflate_lengths : List xB := [⟨3, 0⟩, ⟨4, 0⟩, ⟨5, 0⟩, ⟨6, 0⟩, ⟨7, 0⟩, ⟨8, 0⟩, ⟨9, 0⟩, ⟨10, 0⟩, ⟨11, 1⟩, ⟨13, 1⟩, ⟨15, 1⟩, ⟨17, 1⟩, ⟨19, 2⟩, ⟨23, 2⟩, ⟨27, 2⟩, ⟨31, 2⟩, ⟨35, 3⟩, ⟨43, 3⟩, ⟨51, 3⟩, ⟨59, 3⟩, ⟨67, 4⟩, ⟨83, 4⟩, ⟨99, 4⟩, ⟨115, 4⟩, ⟨131, 5⟩, ⟨163, 5⟩, ⟨195, 5⟩, ⟨227, 5⟩, ⟨258, 0⟩]
def tab_inflate_distances : List xB := [⟨1, 0⟩, ⟨2, 0⟩, ⟨3, 0⟩, ⟨4, 0⟩, ⟨5, 1⟩, ⟨7, 1⟩, ⟨9, 2⟩, ⟨13, 2⟩, ⟨17, 3⟩, ⟨25, 3⟩, ⟨33, 4⟩, ⟨49, 4⟩, ⟨65, 5⟩, ⟨97, 5⟩, ⟨129, 6⟩, ⟨193, 6⟩, ⟨257, 7⟩, ⟨385, 7⟩, ⟨513, 8⟩, ⟨769, 8⟩, ⟨1025, 9⟩, ⟨1537, 9⟩, ⟨2049, 10⟩, ⟨3073, 10⟩, ⟨4097, 11⟩, ⟨6145, 11⟩, ⟨8193, 12⟩, ⟨12289, 12⟩, ⟨16385, 13⟩, ⟨24577, 13⟩]
def tab_inflate_order : List Int := [16, 17, 18, 0, 8, 7, 9, 6, 10, 5, 11, 4, 12, 3, 13, 2, 14, 1, 15]
theorem Qj : tab_inflate_order.length = 19 := by decide
def YD.m (K : Nat) (s6 : List UInt8) : qN Unit :=
  .ok ()
def vr.m (K : Nat) (M3 : Int) : qN Bool :=
  lt ((((decide (M3 > (0 : Int))) && (decide (M3 ≤ (8 : Int)))) && ((xH .i64 M3 (qg (M3 - (1 : Int)))) == (0 : Int)))) fun (M4 : Bool) =>
  .ok M4
def jm.m (K : Nat) (M4 : yf) (M3 : Int) (M5 : Int) : qN ((List UInt8) × Int × Int) :=
  cond ((decide (M3 < (0 : Int))) || (decide (M5 < (0 : Int))))
    (
    .ok (([] : List UInt8), (0 : Int), (1 : Int)))
    (
    cond ((decide (M3 > (M4.text_.length : Int))) || (decide (M5 > (qg ((M4.text_.length : Int) - M3)))))
      (
      .ok (([] : List UInt8), (0 : Int), (2 : Int)))
      (
      chk (subok M3 (qg (M3 + M5)) M4.text_.length) <|
      .ok ((sub M4.text_ M3 (qg (M3 + M5))), (qg (M4.base_ + M3)), (0 : Int))))
def yY.m (K : Nat) (M3 : Int) : qN Unit :=
  .ok ()
def ye.m (K : Nat) (M3 : Int) (M4 : Int) : qN Int :=
  lt ((qg ((qg (M4 - (1 : Int))) - M3))) fun (M5 : Int) =>
  .ok M5
def zS.l1 (K : Nat) (M3 : Int) (M4 : List UInt8) : Nat → Int → Int → qN (Int × Int)
  | 0, _, _ => .fail
  | k + 1, M5, M6 =>
    cond (decide (M6 < M3))
      (
      (ye.m K M6 M3).bind fun M8 =>
      chk (inb M8 M4.length) <|
      chk (decide (0 ≤ (qg ((8 : Int) * M6)))) <|
      lt ((QS .u64 M5 (z8 .u64 (wr .u64 ((rd M4 M8).toNat : Int)) (qg ((8 : Int) * M6))))) fun (M7 : Int) =>
      zS.l1 K M3 M4 k M7 (qg (M6 + (1 : Int))))
      (
      .ok (M5, (0 : Int)))
def zS.m (K : Nat) (M7 : yf) (M5 : Int) (M3 : Int) : qN (Int × Int) :=
  (vr.m K M3).bind fun M9 =>
  cond (!M9)
    (
    .ok ((0 : Int), (1 : Int)))
    (
    (jm.m K M7 M5 M3).bind fun (M4, M6, M8) =>
    cond (M8 != (0 : Int))
      (
      .ok ((0 : Int), M8))
      (
      (yY.m K M3).bind fun _ =>
      zS.l1 K M3 M4 K (0 : Int) (0 : Int)))
def Zf.m (K : Nat) (M3 : List UInt8) : qN Unit :=
  .ok ()
def zI.j2 (K : Nat) (M4 : qG) (M3 : Int) (M5 : Int) : qN (Int × Int × Int) :=
  chk (decide (0 ≤ (xH .i64 M4.place_.at_ (7 : Int)))) <|
  lt ((xb .u64 M5 (xH .i64 M4.place_.at_ (7 : Int)))) fun (M6 : Int) =>
  chk (decide (0 ≤ M3)) <|
  lt ((wr .u32 (xH .u64 M6 (wr .u64 ((z8 .u64 (1 : Int) M3) - (1 : Int)))))) fun (M7 : Int) =>
  .ok (M7, (0 : Int), (qg (M4.place_.at_ + M3)))
def zI.l1 (K : Nat) (M6 : qG) (M5 : Int) (M3 : Int) : Nat → Int → Int → qN (Int × Int × Int)
  | 0, _, _ => .fail
  | k + 1, M7, M4 =>
    cond (decide ((qg ((8 : Int) * (qg (M3 + M4)))) < (qg (M6.place_.at_ + M5))))
      (
      chk (inb (qg (M3 + M4)) M6.text_.length) <|
      chk (decide (0 ≤ (qg ((8 : Int) * M4)))) <|
      lt ((QS .u64 M7 (z8 .u64 (wr .u64 ((rd M6.text_ (qg (M3 + M4))).toNat : Int)) (qg ((8 : Int) * M4))))) fun (M9 : Int) =>
      lt ((qg (M4 + (1 : Int)))) fun (M8 : Int) =>
      zI.l1 K M6 M5 M3 k M9 M8)
      (
      zI.j2 K M6 M5 M7)
def zI.m (K : Nat) (M4 : qG) (M3 : Int) : qN (Int × Int × Int) :=
  lt (((decide (M3 < (0 : Int))) || (decide (M3 > (32 : Int))))) fun (M6 : Bool) =>
  cond M6
    (
    .ok ((0 : Int), (1 : Int), M4.place_.at_))
    (
    lt ((decide (M3 > (qg ((qg ((8 : Int) * (M4.text_.length : Int))) - M4.place_.at_))))) fun (M7 : Bool) =>
    cond M7
      (
      .ok ((0 : Int), (2 : Int), M4.place_.at_))
      (
      lt ((yb .i64 M4.place_.at_ (8 : Int))) fun (M5 : Int) =>
      zI.l1 K M4 M3 M5 K (0 : Int) (0 : Int)))
def yw.m (K : Nat) (M3 : Int) : qN Unit :=
  cond (M3 != (0 : Int))
    (
    .pan (.iface xD (.agg ⟨[.int .i64 M3]⟩)))
    (
    .ok ())
def zO.m (K : Nat) (M5 : qx) (M4 : Int) : qN (Int × Int) :=
  (zI.m K M5.Reader_ M4).bind fun (M7, M8, M3) =>
  (yw.m K M8).bind fun _ =>
  lt ((wr .i64 M7)) fun (M6 : Int) =>
  .ok (M6, M3)
def xW.m (K : Nat) (M3 : qG) : qN Int :=
  .ok (YY .i64 (qg (M3.place_.at_ + (7 : Int))) (7 : Int))
def yo.m (K : Nat) (M6 : qG) (M5 : Int) : qN ((List UInt8) × Int × Int) :=
  cond (decide (M5 < (0 : Int)))
    (
    .ok (([] : List UInt8), (1 : Int), M6.place_.at_))
    (
    (xW.m K M6).bind fun M3 =>
    chk (subok (yb .i64 M3 (8 : Int)) (M6.text_.length : Int) M6.text_.length) <|
    lt ((sub M6.text_ (yb .i64 M3 (8 : Int)) (M6.text_.length : Int))) fun (M4 : List UInt8) =>
    cond (decide (M5 > (M4.length : Int)))
      (
      .ok (([] : List UInt8), (2 : Int), M3))
      (
      chk (subok (0 : Int) M5 M4.length) <|
      lt ((sub M4 (0 : Int) M5)) fun (M7 : List UInt8) =>
      .ok (M7, (0 : Int), (qg (M3 + (qg ((8 : Int) * M5)))))))
def zL.m (K : Nat) (M3 : Bool) (M4 : Int) : qN Unit :=
  cond M3
    (
    .pan (.iface xD (.agg ⟨[.int .i64 M4]⟩)))
    (
    .ok ())
def x8.m (K : Nat) (M4 : qx) : qN (Int × (List Int)) :=
  (yo.m K M4.Reader_ (4 : Int)).bind fun (M3, Na, M6) =>
  (yw.m K Na).bind fun _ =>
  chk (inb (0 : Int) M3.length) <|
  chk (inb (1 : Int) M3.length) <|
  lt ((QS .i64 (wr .i64 ((rd M3 (0 : Int)).toNat : Int)) (z8 .i64 (wr .i64 ((rd M3 (1 : Int)).toNat : Int)) (8 : Int)))) fun (M5 : Int) =>
  chk (inb (2 : Int) M3.length) <|
  chk (inb (3 : Int) M3.length) <|
  (zL.m K ((QS .i64 (wr .i64 ((rd M3 (2 : Int)).toNat : Int)) (z8 .i64 (wr .i64 ((rd M3 (3 : Int)).toNat : Int)) (8 : Int))) != (ub .i64 M5 (65535 : Int))) (3 : Int)).bind fun _ =>
  (yo.m K (qG.mk (qr.mk M6) M4.Reader_.text_) M5).bind fun (M8, Nb, M7) =>
  (yw.m K Nb).bind fun _ =>
  (zL.m K (decide ((qg ((M4.out_.length : Int) + M5)) > M4.limit_)) (11 : Int)).bind fun _ =>
  chk (room (M4.out_.length + M8.length) 1) <|
  lt (M4.out_ ++ M8.map vA) fun (M9 : (List Int)) =>
  .ok (M7, M9)
def xh.j2 (K : Nat)  (M3 : (List Int)) : qN ((List Int) × Bool) :=
  lt (M3.set (Int.toNat (0 : Int)) (0 : Int)) fun (M4 : (List Int)) =>
  .ok (M4, true)
def xh.l1 (K : Nat) (M3 : List Int) : Nat → (List Int) → Int → qN ((List Int) × Bool)
  | 0, _, _ => .fail
  | k + 1, M5, M6 =>
    cond (decide (M6 < (M3.length : Int)))
      (
      chk (inb M6 M3.length) <|
      lt ((rd M3 M6)) fun (M4 : Int) =>
      cond ((decide (M4 < (0 : Int))) || (decide (M4 > (15 : Int))))
        (
        .ok (M5, false))
        (
        chk (inb M4 16) <|
        lt (M5.set (Int.toNat M4) (qg ((rd M5 M4) + (1 : Int)))) fun (M7 : (List Int)) =>
        xh.l1 K M3 k M7 (qg (M6 + (1 : Int)))))
      (
      xh.j2 K M5)
def xh.m (K : Nat) (M3 : List Int) : qN ((List Int) × Bool) :=
  cond (decide ((M3.length : Int) > (320 : Int)))
    (
    .ok ((List.replicate 16 (0 : Int)), false))
    (
    xh.l1 K M3 K (List.replicate 16 (0 : Int)) (0 : Int))
def xr.j2 (K : Nat) (M4 : (List Int)) (M3 : Int) : qN Int :=
  cond (((M3 == (0 : Int)) || (M3 == (32768 : Int))) || (M4 == ([0, (1 : Int), 0, 0, 0, 0, 0, 0, 0, 0, 0, 0, 0, 0, 0, 0] : List Int)))
    (
    .ok (0 : Int))
    (
    .ok (3 : Int))
def xr.l1 (K : Nat) (M6 : (List Int)) : Nat → Int → Int → qN Int
  | 0, _, _ => .fail
  | k + 1, M4, M3 =>
    cond (decide (M3 < (16 : Int)))
      (
      chk (inb M3 16) <|
      lt ((rd M6 M3)) fun (M7 : Int) =>
      chk (decide (0 ≤ M3)) <|
      lt ((qg (M4 + (qg (M7 * (xb .i64 (32768 : Int) M3)))))) fun (M5 : Int) =>
      xr.l1 K M6 k M5 (qg (M3 + (1 : Int))))
      (
      xr.j2 K M6 M4)
def xr.m (K : Nat) (M3 : List Int) : qN Int :=
  (xh.m K M3).bind fun (M4, M5) =>
  cond (!M5)
    (
    .ok (1 : Int))
    (
    xr.l1 K M4 K (0 : Int) (0 : Int))
def xN.l2 (K : Nat) (g1 : (List Int) → Int → qN ((Option qH) × Int)) (M3 : List Int) (M6 : Int) : Nat → (List Int) → Int → qN ((Option qH) × Int)
  | 0, _, _ => .fail
  | k + 1, M4, M5 =>
    cond (decide (M5 < (M3.length : Int)))
      (
      chk (inb M5 M3.length) <|
      lt ((rd M3 M5)) fun (M7 : Int) =>
      cond (M7 == M6)
        (
        chk (room (M4.length + ([M5] : List Int).length) 8) <|
        lt (M4 ++ ([M5] : List Int)) fun (M9 : (List Int)) =>
        xN.l2 K g1 M3 M6 k M9 (qg (M5 + (1 : Int))))
        (
        xN.l2 K g1 M3 M6 k M4 (qg (M5 + (1 : Int)))))
      (
      lt ((qg (M6 + (1 : Int)))) fun (M8 : Int) =>
      g1 M4 M8)
def xN.l1 (K : Nat) (M3 : List Int) (M6 : (List Int)) : Nat → (List Int) → Int → qN ((Option qH) × Int)
  | 0, _, _ => .fail
  | k + 1, M4, M5 =>
    cond (decide (M5 ≤ (15 : Int)))
      (
      xN.l2 K (xN.l1 K M3 M6 k) M3 M5 K M4 (0 : Int))
      (
      .ok ((some (qH.mk M6 M4)), (0 : Int)))
def xN.m (K : Nat) (M3 : List Int) : qN ((Option qH) × Int) :=
  (xr.m K M3).bind fun M4 =>
  cond (M4 != (0 : Int))
    (
    .ok (none, M4))
    (
    (xh.m K M3).bind fun (M5, M6) =>
    xN.l1 K M3 M5 K ([] : List Int) (1 : Int))
def yj.m (K : Nat) (M3 : List Int) : qN (Option qH) :=
  (xN.m K M3).bind fun (M4, M5) =>
  (zL.m K (M5 != (0 : Int)) (3 : Int)).bind fun _ =>
  .ok M4
def zt.j2 (K : Nat) (g1 : (List Int) → Int → qN ((Option qH) × (Option qH))) (M3 : Int) (M4 : (List Int)) : qN ((Option qH) × (Option qH)) :=
  cond ((decide (M3 ≥ (256 : Int))) && (decide (M3 < (280 : Int))))
    (
    lt (M4.set (Int.toNat M3) (7 : Int)) fun (M5 : (List Int)) =>
    g1 M5 (qg (M3 + (1 : Int))))
    (
    g1 M4 (qg (M3 + (1 : Int))))
def zt.j5 (K : Nat) (M3 : (List Int)) (M4 : (List Int)) : qN ((Option qH) × (Option qH)) :=
  (yj.m K M3).bind fun M5 =>
  (yj.m K M4).bind fun M6 =>
  .ok (M5, M6)
def zt.l4 (K : Nat) (M4 : (List Int)) : Nat → (List Int) → Int → qN ((Option qH) × (Option qH))
  | 0, _, _ => .fail
  | k + 1, M5, M3 =>
    cond (decide (M3 < (32 : Int)))
      (
      chk (inb M3 32) <|
      lt (M5.set (Int.toNat M3) (5 : Int)) fun (M6 : (List Int)) =>
      zt.l4 K M4 k M6 (qg (M3 + (1 : Int))))
      (
      zt.j5 K M4 M5)
def zt.j3 (K : Nat)  (M3 : (List Int)) : qN ((Option qH) × (Option qH)) :=
  zt.l4 K M3 K (List.replicate 32 (0 : Int)) (0 : Int)
def zt.l1 (K : Nat)  : Nat → (List Int) → Int → qN ((Option qH) × (Option qH))
  | 0, _, _ => .fail
  | k + 1, M4, M3 =>
    cond (decide (M3 < (288 : Int)))
      (
      chk (inb M3 288) <|
      lt (M4.set (Int.toNat M3) (8 : Int)) fun (M5 : (List Int)) =>
      cond ((decide (M3 ≥ (144 : Int))) && (decide (M3 < (256 : Int))))
        (
        lt (M5.set (Int.toNat M3) (9 : Int)) fun (M6 : (List Int)) =>
        zt.j2 K (zt.l1 K k) M3 M6)
        (
        zt.j2 K (zt.l1 K k) M3 M5))
      (
      zt.j3 K M4)
def zt.m (K : Nat) : qN ((Option qH) × (Option qH)) :=
  zt.l1 K K (List.replicate 288 (0 : Int)) (0 : Int)
def z9.j2 (K : Nat) (M4 : qG) (M3 : Int) : qN (Int × Int × Int) :=
  .ok ((0 : Int), (3 : Int), M4.place_.at_)
def z9.l1 (K : Nat) (Nd : qH) (Ng : qG) : Nat → Int → Int → Int → Int → Int → qN (Int × Int × Int)
  | 0, _, _, _, _, _ => .fail
  | k + 1, M7, Nf, M9, M3, Nc =>
    cond (decide (M3 < (Nd.symbols_.length : Int)))
      (
      (zI.m K (qG.mk (qr.mk M7) Ng.text_) (1 : Int)).bind fun (Nk, Ni, M8) =>
      cond (Ni != (0 : Int))
        (
        .ok ((0 : Int), Ni, Ng.place_.at_))
        (
        lt ((QS .i64 (z8 .i64 Nf (1 : Int)) (wr .i64 Nk))) fun (M5 : Int) =>
        lt ((z8 .i64 M9 (1 : Int))) fun (M4 : Int) =>
        chk (inb Nc 16) <|
        lt ((rd Nd.counts_ Nc)) fun (Nb : Int) =>
        cond (decide ((qg (M5 - M4)) < Nb))
          (
          chk (inb (qg ((qg (M3 + M5)) - M4)) Nd.symbols_.length) <|
          lt ((rd Nd.symbols_ (qg ((qg (M3 + M5)) - M4)))) fun (Nj : Int) =>
          .ok (Nj, (0 : Int), M8))
          (
          lt ((qg (M4 + Nb))) fun (Na : Int) =>
          lt ((qg (M3 + Nb))) fun (M6 : Int) =>
          lt ((qg (Nc + (1 : Int)))) fun (Nh : Int) =>
          z9.l1 K Nd Ng k M8 M5 Na M6 Nh)))
      (
      z9.j2 K Ng M7)
def z9.m (K : Nat) (M4 : qH) (M3 : qG) : qN (Int × Int × Int) :=
  z9.l1 K M4 M3 K M3.place_.at_ (0 : Int) (0 : Int) (0 : Int) (1 : Int)
def xL.m (K : Nat) (M4 : qx) (M5 : qH) : qN (Int × Int) :=
  (z9.m K M5 M4.Reader_).bind fun (M6, M7, M3) =>
  (yw.m K M7).bind fun _ =>
  .ok (M6, M3)
def ya.m (K : Nat) (M5 : qx) (M4 : xB) : qN (Int × Int) :=
  (zO.m K M5 M4.bits_).bind fun (M7, M3) =>
  lt ((qg (M4.from_ + M7))) fun (M6 : Int) =>
  .ok (M6, M3)
def qV.l2 (K : Nat) (g1 : Int → (List Int) → qN (Int × (List Int))) (M7 : Int) (M5 : Int) (M4 : Int) : Nat → (List Int) → Int → qN (Int × (List Int))
  | 0, _, _ => .fail
  | k + 1, M3, M6 =>
    cond (decide (M6 < M7))
      (
      chk (inb (qg ((M3.length : Int) - M5)) M3.length) <|
      chk (room (M3.length + ([(rd M3 (qg ((M3.length : Int) - M5)))] : List Int).length) 1) <|
      lt (M3 ++ ([(rd M3 (qg ((M3.length : Int) - M5)))] : List Int)) fun (M8 : (List Int)) =>
      qV.l2 K g1 M7 M5 M4 k M8 (qg (M6 + (1 : Int))))
      (
      g1 M4 M3)
def qV.l1 (K : Nat) (M5 : qx) (M4 : qH) (M6 : qH) : Nat → Int → (List Int) → qN (Int × (List Int))
  | 0, _, _ => .fail
  | k + 1, Ng, M3 =>
    (xL.m K (qx.mk (qG.mk (qr.mk Ng) M5.Reader_.text_) M3 M5.limit_) M4).bind fun (M7, M8) =>
    lt ((M7 == (256 : Int))) fun (Ni : Bool) =>
    cond Ni
      (
      .ok (M8, M3))
      (
      lt ((decide (M7 < (256 : Int)))) fun (Nj : Bool) =>
      cond Nj
        (
        (zL.m K ((M3.length : Int) == M5.limit_) (11 : Int)).bind fun _ =>
        chk (room (M3.length + ([(wr .u8 M7)] : List Int).length) 1) <|
        lt (M3 ++ ([(wr .u8 M7)] : List Int)) fun (Nh : (List Int)) =>
        qV.l1 K M5 M4 M6 k M8 Nh)
        (
        (zL.m K (decide (M7 ≥ (286 : Int))) (3 : Int)).bind fun _ =>
        chk (inb (qg (M7 - (257 : Int))) 29) <|
        (ya.m K (qx.mk (qG.mk (qr.mk M8) M5.Reader_.text_) M3 M5.limit_) (xB.mk ((rd tab_inflate_lengths (qg (M7 - (257 : Int)))).from_) ((rd tab_inflate_lengths (qg (M7 - (257 : Int)))).bits_))).bind fun (Nd, Na) =>
        (xL.m K (qx.mk (qG.mk (qr.mk Na) M5.Reader_.text_) M3 M5.limit_) M6).bind fun (M9, Nb) =>
        (zL.m K (decide (M9 ≥ (30 : Int))) (3 : Int)).bind fun _ =>
        chk (inb M9 30) <|
        (ya.m K (qx.mk (qG.mk (qr.mk Nb) M5.Reader_.text_) M3 M5.limit_) (xB.mk ((rd tab_inflate_distances M9).from_) ((rd tab_inflate_distances M9).bits_))).bind fun (Nf, Nc) =>
        (zL.m K (decide (Nf > (M3.length : Int))) (3 : Int)).bind fun _ =>
        (zL.m K (decide ((qg ((M3.length : Int) + Nd)) > M5.limit_)) (11 : Int)).bind fun _ =>
        qV.l2 K (qV.l1 K M5 M4 M6 k) Nd Nf Nc K M3 (0 : Int)))
def qV.m (K : Nat) (M5 : qx) (M3 : qH) (M4 : qH) : qN (Int × (List Int)) :=
  qV.l1 K M5 M3 M4 K M5.Reader_.place_.at_ M5.out_
def qO.l3 (K : Nat) (g1 : Int → (List Int) → qN ((List Int) × Int)) (M6 : Int) (M3 : Int) (M4 : Int) : Nat → (List Int) → Int → qN ((List Int) × Int)
  | 0, _, _ => .fail
  | k + 1, M5, M7 =>
    cond (decide (M7 < M4))
      (
      chk (room (M5.length + ([M3] : List Int).length) 8) <|
      lt (M5 ++ ([M3] : List Int)) fun (M8 : (List Int)) =>
      qO.l3 K g1 M6 M3 M4 k M8 (qg (M7 + (1 : Int))))
      (
      g1 M6 M5)
def qO.j2 (K : Nat) (g1 : Int → (List Int) → qN ((List Int) × Int)) (M7 : Int) (M5 : (List Int)) (M6 : Int) (M4 : Int) (M3 : Int) : qN ((List Int) × Int) :=
  (zL.m K (decide (M3 > (qg (M7 - (M5.length : Int))))) (3 : Int)).bind fun _ =>
  qO.l3 K (g1) M6 M4 M3 K M5 (0 : Int)
def qO.l1 (K : Nat) (M3 : qx) (M5 : Int) (M7 : qH) : Nat → Int → (List Int) → qN ((List Int) × Int)
  | 0, _, _ => .fail
  | k + 1, M8, M4 =>
    cond (decide ((M4.length : Int) < M5))
      (
      (xL.m K (qx.mk (qG.mk (qr.mk M8) M3.Reader_.text_) M3.out_ M3.limit_) M7).bind fun (M9, M6) =>
      lt ((decide (M9 < (16 : Int)))) fun (Ni : Bool) =>
      cond Ni
        (
        qO.j2 K (qO.l1 K M3 M5 M7 k) M5 M4 M6 M9 (1 : Int))
        (
        lt ((M9 == (16 : Int))) fun (Nj : Bool) =>
        cond Nj
          (
          (zL.m K ((M4.length : Int) == (0 : Int)) (3 : Int)).bind fun _ =>
          chk (inb (qg ((M4.length : Int) - (1 : Int))) M4.length) <|
          (zO.m K (qx.mk (qG.mk (qr.mk M6) M3.Reader_.text_) M3.out_ M3.limit_) (2 : Int)).bind fun (Nl, Nf) =>
          lt ((rd M4 (qg ((M4.length : Int) - (1 : Int))))) fun (Nd : Int) =>
          lt ((qg ((3 : Int) + Nl))) fun (Na : Int) =>
          qO.j2 K (qO.l1 K M3 M5 M7 k) M5 M4 Nf Nd Na)
          (
          lt ((M9 == (17 : Int))) fun (Nk : Bool) =>
          cond Nk
            (
            (zO.m K (qx.mk (qG.mk (qr.mk M6) M3.Reader_.text_) M3.out_ M3.limit_) (3 : Int)).bind fun (Nm, Ng) =>
            lt ((qg ((3 : Int) + Nm))) fun (Nb : Int) =>
            qO.j2 K (qO.l1 K M3 M5 M7 k) M5 M4 Ng (0 : Int) Nb)
            (
            (zO.m K (qx.mk (qG.mk (qr.mk M6) M3.Reader_.text_) M3.out_ M3.limit_) (7 : Int)).bind fun (Nn, Nh) =>
            lt ((qg ((11 : Int) + Nn))) fun (Nc : Int) =>
            qO.j2 K (qO.l1 K M3 M5 M7 k) M5 M4 Nh (0 : Int) Nc))))
      (
      .ok (M4, M8))
def qO.m (K : Nat) (M3 : qx) (M4 : Int) (M5 : qH) : qN ((List Int) × Int) :=
  qO.l1 K M3 M4 M5 K M3.Reader_.place_.at_ ([] : List Int)
def zc.j2 (K : Nat) (M6 : qx) (M4 : Int) (Nb : Int) (M7 : Int) (M5 : (List Int)) : qN ((Option qH) × (Option qH) × Int) :=
  (zL.m K (M5 == ([0, 0, 0, 0, 0, 0, 0, 0, 0, 0, 0, 0, 0, 0, 0, 0, 0, 0, 0] : List Int)) (3 : Int)).bind fun _ =>
  (yj.m K M5).bind fun Nc =>
  GQ Nc fun Nd =>
  (qO.m K (qx.mk (qG.mk (qr.mk M7) M6.Reader_.text_) M6.out_ M6.limit_) (qg (M4 + Nb)) Nd).bind fun (M3, M8) =>
  chk (inb (256 : Int) M3.length) <|
  (zL.m K ((rd M3 (256 : Int)) == (0 : Int)) (3 : Int)).bind fun _ =>
  chk (subok (0 : Int) M4 M3.length) <|
  lt (sub M3 (0 : Int) M4) fun (M9 : (List Int)) =>
  chk (subok M4 (M3.length : Int) M3.length) <|
  lt (sub M3 M4 (M3.length : Int)) fun (Na : (List Int)) =>
  (yj.m K M9).bind fun Nf =>
  (yj.m K Na).bind fun Ng =>
  .ok (Nf, Ng, M8)
def zc.l1 (K : Nat) (M4 : qx) (M8 : Int) (M9 : Int) (M3 : Int) : Nat → Int → (List Int) → Int → qN ((Option qH) × (Option qH) × Int)
  | 0, _, _, _ => .fail
  | k + 1, M6, M7, M5 =>
    cond (decide (M5 < (19 : Int)))
      (
      chk (inb M5 19) <|
      lt ((rd tab_inflate_order M5)) fun (Nb : Int) =>
      cond (decide (M5 < M3))
        (
        (zO.m K (qx.mk (qG.mk (qr.mk M6) M4.Reader_.text_) M4.out_ M4.limit_) (3 : Int)).bind fun (Nd, Na) =>
        chk (inb Nb 19) <|
        lt (M7.set (Int.toNat Nb) Nd) fun (Nc : (List Int)) =>
        zc.l1 K M4 M8 M9 M3 k Na Nc (qg (M5 + (1 : Int))))
        (
        zc.l1 K M4 M8 M9 M3 k M6 M7 (qg (M5 + (1 : Int)))))
      (
      zc.j2 K M4 M8 M9 M6 M7)
def zc.m (K : Nat) (M3 : qx) : qN ((Option qH) × (Option qH) × Int) :=
  (zO.m K M3 (5 : Int)).bind fun (Na, M6) =>
  (zO.m K (qx.mk (qG.mk (qr.mk M6) M3.Reader_.text_) M3.out_ M3.limit_) (5 : Int)).bind fun (Nb, M7) =>
  lt ((qg (Na + (257 : Int)))) fun (M5 : Int) =>
  lt ((qg (Nb + (1 : Int)))) fun (M9 : Int) =>
  (zO.m K (qx.mk (qG.mk (qr.mk M7) M3.Reader_.text_) M3.out_ M3.limit_) (4 : Int)).bind fun (Nc, M8) =>
  lt ((qg (Nc + (4 : Int)))) fun (M4 : Int) =>
  (zL.m K ((decide (M5 > (286 : Int))) || (decide (M9 > (30 : Int)))) (3 : Int)).bind fun _ =>
  zc.l1 K M3 M5 M9 M4 K M8 (List.replicate 19 (0 : Int)) (0 : Int)
def ym.m (K : Nat) (M3 : qx) : qN (Bool × Int × (List Int)) :=
  (zO.m K M3 (1 : Int)).bind fun (Nn, Nb) =>
  lt ((Nn == (1 : Int))) fun (M4 : Bool) =>
  (zO.m K (qx.mk (qG.mk (qr.mk Nb) M3.Reader_.text_) M3.out_ M3.limit_) (2 : Int)).bind fun (Nf, M5) =>
  lt ((Nf == (0 : Int))) fun (Nl : Bool) =>
  cond Nl
    (
    (x8.m K (qx.mk (qG.mk (qr.mk M5) M3.Reader_.text_) M3.out_ M3.limit_)).bind fun (Nc, Nd) =>
    .ok (M4, Nc, Nd))
    (
    lt ((Nf == (1 : Int))) fun (Nm : Bool) =>
    cond Nm
      (
      (zt.m K).bind fun (No, Np) =>
      GQ No fun Nq =>
      GQ Np fun Nr =>
      (qV.m K (qx.mk (qG.mk (qr.mk M5) M3.Reader_.text_) M3.out_ M3.limit_) Nq Nr).bind fun (M6, M9) =>
      .ok (M4, M6, M9))
      (
      lt ((Nf == (2 : Int))) fun (Ng : Bool) =>
      cond Ng
        (
        (zc.m K (qx.mk (qG.mk (qr.mk M5) M3.Reader_.text_) M3.out_ M3.limit_)).bind fun (Nh, Ni, M7) =>
        GQ Nh fun Nj =>
        GQ Ni fun Nk =>
        (qV.m K (qx.mk (qG.mk (qr.mk M7) M3.Reader_.text_) M3.out_ M3.limit_) Nj Nk).bind fun (M8, Na) =>
        .ok (M4, M8, Na))
        (
        (zL.m K true (3 : Int)).bind fun _ =>
        .ok (M4, M5, M3.out_))))
def vK.m (K : Nat) (M3 : qG) : qN Unit :=
  .ok ()
def zC.h1 (K : Nat)  (M4 : Value) : qN ((List UInt8) × Int × Int) :=
  GQ (Md xD .i64 M4) fun M3 =>
  .ok (([] : List UInt8), (0 : Int), M3)
def zC.j4 (K : Nat) (M5 : List UInt8) (M3 : Int) (M4 : (List Int)) : qN ((List UInt8) × Int × Int) :=
  (vK.m K (qG.mk (qr.mk M3) M5)).bind fun _ =>
  .ok ((M4.map v8), (yb .i64 (qg (M3 + (7 : Int))) (8 : Int)), (0 : Int))
def zC.l3 (K : Nat) (M9 : List UInt8) (M4 : Int) : Nat → Int → (List Int) → qN ((List UInt8) × Int × Int)
  | 0, _, _ => .fail
  | k + 1, M6, M7 =>
    (ym.m K (qx.mk (qG.mk (qr.mk M6) M9) M7 M4)).bind fun (M8, M3, M5) =>
    cond (!M8)
      (
      zC.l3 K M9 M4 k M3 M5)
      (
      zC.j4 K M9 M3 M5)
def zC.j2 (K : Nat) (M4 : List UInt8) (M3 : Int) : qN ((List UInt8) × Int × Int) :=
  (Zf.m K M4).bind fun _ =>
  zC.l3 K M4 M3 K (0 : Int) ([] : List Int)
def zC.m (K : Nat) (M4 : List UInt8) (M3 : Int) : qN ((List UInt8) × Int × Int) :=
  cond ((decide (M3 < (0 : Int))) || (decide (M3 > (1073741824 : Int))))
    (
    .ok (([] : List UInt8), (0 : Int), (1 : Int)))
    (
    (zC.j2 K M4 M3).catch (zC.h1 K))
def za.j3 (K : Nat) (g1 : (List UInt8) → Int → Int → qN Int) (M3 : List UInt8) (M4 : Int) (M6 : Int) (M8 : Int) : qN Int :=
  chk (subok M4 (M3.length : Int) M3.length) <|
  lt ((vV M6 (65521 : Int))) fun (M7 : Int) =>
  lt ((vV M8 (65521 : Int))) fun (M9 : Int) =>
  lt ((sub M3 M4 (M3.length : Int))) fun (M5 : List UInt8) =>
  g1 M5 M7 M9
def za.l2 (K : Nat) (g1 : (List UInt8) → Int → Int → qN Int) (M4 : List UInt8) (M3 : Int) : Nat → Int → Int → Int → qN Int
  | 0, _, _, _ => .fail
  | k + 1, M6, M8, M5 =>
    cond (decide (M5 < M3))
      (
      chk (inb M5 M4.length) <|
      lt ((wr .u32 (M6 + (wr .u32 ((rd M4 M5).toNat : Int))))) fun (M7 : Int) =>
      lt ((wr .u32 (M8 + M7))) fun (M9 : Int) =>
      za.l2 K g1 M4 M3 k M7 M9 (qg (M5 + (1 : Int))))
      (
      za.j3 K (g1) M4 M3 M6 M8)
def za.j4 (K : Nat)  (M4 : Int) (M5 : Int) : qN Int :=
  lt ((QS .u32 (z8 .u32 M5 (16 : Int)) M4)) fun (M3 : Int) =>
  .ok M3
def za.l1 (K : Nat)  : Nat → (List UInt8) → Int → Int → qN Int
  | 0, _, _, _ => .fail
  | k + 1, M3, M4, M5 =>
    cond (decide ((M3.length : Int) > (0 : Int)))
      (
      lt ((if (M3.length : Int) < (5000 : Int) then (M3.length : Int) else (5000 : Int))) fun (M6 : Int) =>
      za.l2 K (za.l1 K k) M3 M6 K M4 M5 (0 : Int))
      (
      za.j4 K M4 M5)
def za.m (K : Nat) (M3 : Int) (M4 : List UInt8) : qN Int :=
  lt ((vV (xH .u32 M3 (65535 : Int)) (65521 : Int))) fun (M5 : Int) =>
  lt ((vV (xb .u32 M3 (16 : Int)) (65521 : Int))) fun (M6 : Int) =>
  za.l1 K K M4 M5 M6
def j0.m (K : Nat) (M3 : List UInt8) : qN Int :=
  (za.m K (1 : Int) M3).bind fun M4 =>
  .ok M4
def jn.m (K : Nat) (s3 : List UInt8) (limit4 : Int) : qN ((List UInt8) × Int × Int) :=
  cond ((decide (limit4 < (0 : Int))) || (decide (limit4 > (1073741824 : Int))))
    (
    .ok (([] : List UInt8), (0 : Int), (1 : Int)))
    (
    (YD.m K s3).bind fun _ =>
    (zS.m K (yf.mk s3 (0 : Int)) (0 : Int) (2 : Int)).bind fun (Nd, Nf) =>
    cond (Nf != (0 : Int))
      (
      .ok (([] : List UInt8), (0 : Int), Nf))
      (
      cond (((((xH .u64 (xb .u64 Nd (8 : Int)) (15 : Int)) != (8 : Int)) || (decide ((xb .u64 Nd (12 : Int)) > (7 : Int)))) || ((vV Nd (31 : Int)) != (0 : Int))) || ((xH .u64 Nd (32 : Int)) != (0 : Int)))
        (
        .ok (([] : List UInt8), (0 : Int), (3 : Int)))
        (
        chk (subok (2 : Int) (s3.length : Int) s3.length) <|
        (zC.m K (sub s3 (2 : Int) (s3.length : Int)) limit4).bind fun (M4, Na, M5) =>
        cond (M5 != (0 : Int))
          (
          .ok (([] : List UInt8), (0 : Int), M5))
          (
          lt ((qg (Na + (2 : Int)))) fun (M3 : Int) =>
          (YD.m K s3).bind fun _ =>
          (zS.m K (yf.mk s3 (0 : Int)) M3 (4 : Int)).bind fun (Nb, M6) =>
          lt ((M6 != (0 : Int))) fun (M7 : Bool) =>
          cond M7
            (
            .ok (([] : List UInt8), (0 : Int), M6))
            (
            (j0.m K M4).bind fun Nc =>
            lt (((wr .u32 Nb) != Nc)) fun (M8 : Bool) =>
            cond M8
              (
              .ok (([] : List UInt8), (0 : Int), (4 : Int)))
              (
              lt ((qg (M3 + (4 : Int)))) fun (M9 : Int) =>
              .ok (M4, M9, (0 : Int))))))))
def yp.m (K : Nat) : qN Bool :=
  (jn.m K ([120, 156, 3, 0, 0, 0, 0, 1, 122] : List UInt8) (0 : Int)).bind fun (M4, M5, M6) =>
  (jn.m K ([120, 156, 3, 0, 0, 0, 0, 2] : List UInt8) (0 : Int)).bind fun (M9, Na, M7) =>
  (jn.m K ([120, 157] : List UInt8) (0 : Int)).bind fun (Nb, Nc, M8) =>
  lt ((((((M4 == ([] : List UInt8)) && (M5 == (8 : Int))) && (M6 == (0 : Int))) && (M7 == (4 : Int))) && (M8 == (3 : Int)))) fun (M3 : Bool) =>
  .ok M3
def zw.j3 (K : Nat)  (M3 : Int) (M4 : Int) : qN Int :=
  chk (inb (wr .u8 M3) ([0, 1, 2, 2, 3, 3, 3, 3, 4, 4, 4, 4, 4, 4, 4, 4, 5, 5, 5, 5, 5, 5, 5, 5, 5, 5, 5, 5, 5, 5, 5, 5, 6, 6, 6, 6, 6, 6, 6, 6, 6, 6, 6, 6, 6, 6, 6, 6, 6, 6, 6, 6, 6, 6, 6, 6, 6, 6, 6, 6, 6, 6, 6, 6, 7, 7, 7, 7, 7, 7, 7, 7, 7, 7, 7, 7, 7, 7, 7, 7, 7, 7, 7, 7, 7, 7, 7, 7, 7, 7, 7, 7, 7, 7, 7, 7, 7, 7, 7, 7, 7, 7, 7, 7, 7, 7, 7, 7, 7, 7, 7, 7, 7, 7, 7, 7, 7, 7, 7, 7, 7, 7, 7, 7, 7, 7, 7, 7, 8, 8, 8, 8, 8, 8, 8, 8, 8, 8, 8, 8, 8, 8, 8, 8, 8, 8, 8, 8, 8, 8, 8, 8, 8, 8, 8, 8, 8, 8, 8, 8, 8, 8, 8, 8, 8, 8, 8, 8, 8, 8, 8, 8, 8, 8, 8, 8, 8, 8, 8, 8, 8, 8, 8, 8, 8, 8, 8, 8, 8, 8, 8, 8, 8, 8, 8, 8, 8, 8, 8, 8, 8, 8, 8, 8, 8, 8, 8, 8, 8, 8, 8, 8, 8, 8, 8, 8, 8, 8, 8, 8, 8, 8, 8, 8, 8, 8, 8, 8, 8, 8, 8, 8, 8, 8, 8, 8, 8, 8, 8, 8, 8, 8, 8, 8, 8, 8, 8, 8, 8, 8, 8, 8, 8, 8, 8, 8] : List UInt8).length) <|
  lt ((qg (M4 + (wr .i64 ((rd ([0, 1, 2, 2, 3, 3, 3, 3, 4, 4, 4, 4, 4, 4, 4, 4, 5, 5, 5, 5, 5, 5, 5, 5, 5, 5, 5, 5, 5, 5, 5, 5, 6, 6, 6, 6, 6, 6, 6, 6, 6, 6, 6, 6, 6, 6, 6, 6, 6, 6, 6, 6, 6, 6, 6, 6, 6, 6, 6, 6, 6, 6, 6, 6, 7, 7, 7, 7, 7, 7, 7, 7, 7, 7, 7, 7, 7, 7, 7, 7, 7, 7, 7, 7, 7, 7, 7, 7, 7, 7, 7, 7, 7, 7, 7, 7, 7, 7, 7, 7, 7, 7, 7, 7, 7, 7, 7, 7, 7, 7, 7, 7, 7, 7, 7, 7, 7, 7, 7, 7, 7, 7, 7, 7, 7, 7, 7, 7, 8, 8, 8, 8, 8, 8, 8, 8, 8, 8, 8, 8, 8, 8, 8, 8, 8, 8, 8, 8, 8, 8, 8, 8, 8, 8, 8, 8, 8, 8, 8, 8, 8, 8, 8, 8, 8, 8, 8, 8, 8, 8, 8, 8, 8, 8, 8, 8, 8, 8, 8, 8, 8, 8, 8, 8, 8, 8, 8, 8, 8, 8, 8, 8, 8, 8, 8, 8, 8, 8, 8, 8, 8, 8, 8, 8, 8, 8, 8, 8, 8, 8, 8, 8, 8, 8, 8, 8, 8, 8, 8, 8, 8, 8, 8, 8, 8, 8, 8, 8, 8, 8, 8, 8, 8, 8, 8, 8, 8, 8, 8, 8, 8, 8, 8, 8, 8, 8, 8, 8, 8, 8, 8, 8, 8, 8, 8, 8] : List UInt8) (wr .u8 M3)).toNat : Int))))) fun (M5 : Int) =>
  .ok M5
def zw.j2 (K : Nat)  (M4 : Int) (M3 : Int) : qN Int :=
  cond (decide (M4 ≥ (256 : Int)))
    (
    lt ((xb .u64 M4 (8 : Int))) fun (M6 : Int) =>
    lt ((qg (M3 + (8 : Int)))) fun (M5 : Int) =>
    zw.j3 K M6 M5)
    (
    zw.j3 K M4 M3)
def zw.j1 (K : Nat)  (M4 : Int) (M3 : Int) : qN Int :=
  cond (decide (M4 ≥ (65536 : Int)))
    (
    lt ((xb .u64 M4 (16 : Int))) fun (M6 : Int) =>
    lt ((qg (M3 + (16 : Int)))) fun (M5 : Int) =>
    zw.j2 K M6 M5)
    (
    zw.j2 K M4 M3)
def zw.m (K : Nat) (M3 : Int) : qN Int :=
  cond (decide (M3 ≥ (4294967296 : Int)))
    (
    lt ((xb .u64 M3 (32 : Int))) fun (M4 : Int) =>
    zw.j1 K M4 (32 : Int))
    (
    zw.j1 K M3 (0 : Int))
def xl.l1 (K : Nat) (M6 : Int) (M3 : Int) (M7 : (List Int)) : Nat → (List Int) → Int → qN ((List UInt8) × Int)
  | 0, _, _ => .fail
  | k + 1, M5, M4 =>
    cond (decide (M4 < (M7.length : Int)))
      (
      chk (decide (0 ≤ (qg ((8 : Int) * M4)))) <|
      (ye.m K M4 M3).bind fun M8 =>
      chk (inb M8 M5.length) <|
      lt (M5.set (Int.toNat M8) (wr .u8 (xb .u64 M6 (qg ((8 : Int) * M4))))) fun (M9 : (List Int)) =>
      xl.l1 K M6 M3 M7 k M9 (qg (M4 + (1 : Int))))
      (
      lt ((M5.map v8)) fun (Na : List UInt8) =>
      .ok (Na, (0 : Int)))
def xl.m (K : Nat) (M4 : Int) (M3 : Int) : qN ((List UInt8) × Int) :=
  (vr.m K M3).bind fun M6 =>
  cond (!M6)
    (
    .ok (([] : List UInt8), (1 : Int)))
    (
    (zw.m K M4).bind fun M7 =>
    cond (decide (M7 > (qg ((8 : Int) * M3))))
      (
      .ok (([] : List UInt8), (10 : Int)))
      (
      (yY.m K M3).bind fun _ =>
      chk (decide (0 ≤ M3) && room (Int.toNat M3) 1) <|
      lt (List.replicate (Int.toNat M3) (0 : Int)) fun (M5 : (List Int)) =>
      xl.l1 K M4 M3 M5 K M5 (0 : Int)))
def yE.m (K : Nat) (M3 : xn) (M4 : Int) : qN Unit :=
  chk (inb M4 M3.text_.length) <|
  chk (inb (qg (M4 + (1 : Int))) M3.text_.length) <|
  chk (inb (qg (M4 + (2 : Int))) M3.text_.length) <|
  .ok ()
def zy.j2 (K : Nat) (g1 : Int → qN Int) (M3 : Int) (M5 : Bool) : qN Int :=
  cond M5
    (
    lt ((qg (M3 + (1 : Int)))) fun (M4 : Int) =>
    g1 M4)
    (
    .ok M3)
def zy.l1 (K : Nat) (M4 : xn) (M6 : Int) (M5 : Int) : Nat → Int → qN Int
  | 0, _ => .fail
  | k + 1, M3 =>
    cond (decide (M3 < (258 : Int)))
      (
      cond (decide ((qg (M5 + M3)) < (M4.text_.length : Int)))
        (
        chk (inb (qg (M6 + M3)) M4.text_.length) <|
        chk (inb (qg (M5 + M3)) M4.text_.length) <|
        zy.j2 K (zy.l1 K M4 M6 M5 k) M3 (((rd M4.text_ (qg (M6 + M3))).toNat : Int) == ((rd M4.text_ (qg (M5 + M3))).toNat : Int)))
        (
        zy.j2 K (zy.l1 K M4 M6 M5 k) M3 false))
      (
      zy.j2 K (zy.l1 K M4 M6 M5 k) M3 false)
def zy.m (K : Nat) (M5 : xn) (M3 : Int) (M4 : Int) : qN Int :=
  zy.l1 K M5 M3 M4 K (0 : Int)
def zP.j2 (K : Nat)  (M4 : Int) (M3 : Int) : qN (Int × Int) :=
  .ok (M4, M3)
def zP.l1 (K : Nat) (M8 : xn) (M7 : Int) (M4 : (List Int)) : Nat → Int → Int → Int → qN (Int × Int)
  | 0, _, _, _ => .fail
  | k + 1, M5, M6, M3 =>
    cond ((decide (M3 < (32 : Int))) && (decide (M3 < (M4.length : Int))))
      (
      chk (inb (qg ((qg ((M4.length : Int) - (1 : Int))) - M3)) M4.length) <|
      lt ((rd M4 (qg ((qg ((M4.length : Int) - (1 : Int))) - M3)))) fun (Nb : Int) =>
      cond (decide ((qg (M7 - Nb)) > (32768 : Int)))
        (
        zP.j2 K M5 M6)
        (
        (zy.m K M8 Nb M7).bind fun Nc =>
        cond (decide (Nc > M5))
          (
          lt ((qg (M3 + (1 : Int)))) fun (M9 : Int) =>
          zP.l1 K M8 M7 M4 k Nc (qg (M7 - Nb)) M9)
          (
          lt ((qg (M3 + (1 : Int)))) fun (Na : Int) =>
          zP.l1 K M8 M7 M4 k M5 M6 Na)))
      (
      zP.j2 K M5 M6)
def zP.m (K : Nat) (M3 : xn) (M4 : Int) : qN (Int × Int) :=
  cond (decide ((qg (M4 + (3 : Int))) > (M3.text_.length : Int)))
    (
    .ok ((0 : Int), (0 : Int)))
    (
    (yE.m K M3 M4).bind fun _ =>
    lt (vw M3.seen_ ([((rd M3.text_ M4).toNat : Int), ((rd M3.text_ (qg (M4 + (1 : Int)))).toNat : Int), ((rd M3.text_ (qg (M4 + (2 : Int)))).toNat : Int)] : List Int)) fun (M5 : (List Int)) =>
    zP.l1 K M3 M4 M5 K (0 : Int) (0 : Int) (0 : Int))
def yH.m (K : Nat) (M3 : xn) (M4 : Int) : qN (List ((List Int) × (List Int))) :=
  cond (decide ((qg (M4 + (3 : Int))) ≤ (M3.text_.length : Int)))
    (
    (yE.m K M3 M4).bind fun _ =>
    lt (vw M3.seen_ ([((rd M3.text_ M4).toNat : Int), ((rd M3.text_ (qg (M4 + (1 : Int)))).toNat : Int), ((rd M3.text_ (qg (M4 + (2 : Int)))).toNat : Int)] : List Int)) fun (M5 : (List Int)) =>
    chk (room (M5.length + ([M4] : List Int).length) 8) <|
    lt (M5 ++ ([M4] : List Int)) fun (M6 : (List Int)) =>
    lt (Q7 M3.seen_ ([((rd M3.text_ M4).toNat : Int), ((rd M3.text_ (qg (M4 + (1 : Int)))).toNat : Int), ((rd M3.text_ (qg (M4 + (2 : Int)))).toNat : Int)] : List Int) M6) fun (M7 : (List ((List Int) × (List Int)))) =>
    .ok M7)
    (
    .ok M3.seen_)
def zW.l3 (K : Nat) (g1 : (List ((List Int) × (List Int))) → (List qM) → Int → qN (List qM)) (M8 : List UInt8) (M3 : Int) (M7 : (List qM)) : Nat → (List ((List Int) × (List Int))) → Int → Int → qN (List qM)
  | 0, _, _, _ => .fail
  | k + 1, M4, M5, M9 =>
    cond (decide (M9 < (if M3 > (1 : Int) then M3 else (1 : Int))))
      (
      (yH.m K (xn.mk M8 M4) M5).bind fun M6 =>
      lt ((qg (M5 + (1 : Int)))) fun (Na : Int) =>
      zW.l3 K g1 M8 M3 M7 k M6 Na (qg (M9 + (1 : Int))))
      (
      g1 M4 M7 M5)
def zW.j2 (K : Nat) (g1 : (List ((List Int) × (List Int))) → (List qM) → Int → qN (List qM)) (Na : List UInt8) (M7 : (List ((List Int) × (List Int)))) (M6 : (List qM)) (M9 : Int) (M5 : Int) (M3 : Int) (M4 : Int) : qN (List qM) :=
  chk (room (M6.length + ([(qM.mk M5 M3 M4)] : List qM).length) 24) <|
  lt (M6 ++ ([(qM.mk M5 M3 M4)] : List qM)) fun (M8 : (List qM)) =>
  zW.l3 K (g1) Na M3 M8 K M7 M9 (0 : Int)
def zW.l1 (K : Nat) (M3 : List UInt8) : Nat → (List ((List Int) × (List Int))) → (List qM) → Int → qN (List qM)
  | 0, _, _, _ => .fail
  | k + 1, M4, M6, M5 =>
    cond (decide (M5 < (M3.length : Int)))
      (
      (zP.m K (xn.mk M3 M4) M5).bind fun (M7, M8) =>
      cond (decide (M7 < (3 : Int)))
        (
        chk (inb M5 M3.length) <|
        zW.j2 K (zW.l1 K M3 k) M3 M4 M6 M5 ((rd M3 M5).toNat : Int) (0 : Int) (0 : Int))
        (
        zW.j2 K (zW.l1 K M3 k) M3 M4 M6 M5 (0 : Int) M7 M8))
      (
      .ok M6)
def zW.m (K : Nat) (M3 : List UInt8) : qN (List qM) :=
  zW.l1 K M3 K ([] : List ((List Int) × (List Int))) ([] : List qM) (0 : Int)
def zU.j2 (K : Nat) (g1 : (List UInt8) → (List Int) → qN (List UInt8)) (M5 : List UInt8) (M6 : (List Int)) (M3 : Int) (M4 : Int) : qN (List UInt8) :=
  chk (room (M6.length + ([M4, (wr .u8 M3), (wr .u8 (xb .i64 M3 (8 : Int))), (QR .u8 (wr .u8 M3)), (QR .u8 (wr .u8 (xb .i64 M3 (8 : Int))))] : List Int).length) 1) <|
  lt (M6 ++ ([M4, (wr .u8 M3), (wr .u8 (xb .i64 M3 (8 : Int))), (QR .u8 (wr .u8 M3)), (QR .u8 (wr .u8 (xb .i64 M3 (8 : Int))))] : List Int)) fun (M7 : (List Int)) =>
  chk (subok (0 : Int) M3 M5.length) <|
  chk (room (M7.length + (sub M5 (0 : Int) M3).length) 1) <|
  lt (M7 ++ (sub M5 (0 : Int) M3).map vA) fun (M8 : (List Int)) =>
  chk (subok M3 (M5.length : Int) M5.length) <|
  lt ((sub M5 M3 (M5.length : Int))) fun (M9 : List UInt8) =>
  cond (M4 == (1 : Int))
    (
    lt ((M8.map v8)) fun (Na : List UInt8) =>
    .ok Na)
    (
    g1 M9 M8)
def zU.l1 (K : Nat)  : Nat → (List UInt8) → (List Int) → qN (List UInt8)
  | 0, _, _ => .fail
  | k + 1, M3, M5 =>
    lt ((if (M3.length : Int) < (65535 : Int) then (M3.length : Int) else (65535 : Int))) fun (M4 : Int) =>
    cond (M4 == (M3.length : Int))
      (
      zU.j2 K (zU.l1 K k) M3 M5 M4 (1 : Int))
      (
      zU.j2 K (zU.l1 K k) M3 M5 M4 (0 : Int))
def zU.m (K : Nat) (M3 : List UInt8) : qN (List UInt8) :=
  zU.l1 K K M3 ([] : List Int)
def vW.m (K : Nat) (M3 : qM) : qN Bool :=
  cond (M3.Dist_ == (0 : Int))
    (
    lt ((M3.Len_ == (0 : Int))) fun (M4 : Bool) =>
    .ok M4)
    (
    lt ((((((decide (M3.Dist_ > (0 : Int))) && (decide (M3.Dist_ ≤ (32768 : Int)))) && (decide (M3.Len_ ≥ (3 : Int)))) && (decide (M3.Len_ ≤ (258 : Int)))) && (M3.Lit_ == (0 : Int)))) fun (M5 : Bool) =>
    .ok M5)
def yd.l1 (K : Nat) (M3 : Int) : Nat → Int → Int → qN Int
  | 0, _, _ => .fail
  | k + 1, M5, M4 =>
    chk (decide (0 ≤ M3)) <|
    cond (decide (M5 ≥ (z8 .i64 (2 : Int) M3)))
      (
      lt ((xb .i64 M5 (1 : Int))) fun (M7 : Int) =>
      lt ((qg (M4 + (1 : Int)))) fun (M6 : Int) =>
      yd.l1 K M3 k M7 M6)
      (
      .ok M4)
def yd.m (K : Nat) (M4 : Int) (M3 : Int) : qN Int :=
  yd.l1 K M3 K M4 (0 : Int)
def yR.m (K : Nat) (M3 : Int) : qN Int :=
  lt ((M3 == (258 : Int))) fun (M4 : Bool) =>
  cond M4
    (
    .ok (8 : Int))
    (
    lt ((decide (M3 ≥ (115 : Int)))) fun (M5 : Bool) =>
    cond M5
      (
      (yd.m K (qg (M3 - (3 : Int))) (2 : Int)).bind fun M8 =>
      lt ((qg ((8 : Int) + M8))) fun (M6 : Int) =>
      .ok M6)
      (
      (yd.m K (qg (M3 - (3 : Int))) (2 : Int)).bind fun M9 =>
      lt ((qg ((7 : Int) + M9))) fun (M7 : Int) =>
      .ok M7))
def x4.l1 (K : Nat) (M3 : List qM) : Nat → Int → Int → qN (Int × Int)
  | 0, _, _ => .fail
  | k + 1, M5, M4 =>
    cond (decide (M4 < (M3.length : Int)))
      (
      chk (inb M4 M3.length) <|
      (vW.m K (qM.mk ((rd M3 M4).Lit_) ((rd M3 M4).Len_) ((rd M3 M4).Dist_))).bind fun Nc =>
      lt ((!Nc)) fun (M9 : Bool) =>
      cond M9
        (
        .ok ((0 : Int), (1 : Int)))
        (
        lt ((((rd M3 M4).Dist_ == (0 : Int)) && (decide ((rd M3 M4).Lit_ < (144 : Int))))) fun (Na : Bool) =>
        cond Na
          (
          lt ((qg (M5 + (8 : Int)))) fun (M6 : Int) =>
          x4.l1 K M3 k M6 (qg (M4 + (1 : Int))))
          (
          lt (((rd M3 M4).Dist_ == (0 : Int))) fun (Nb : Bool) =>
          cond Nb
            (
            lt ((qg (M5 + (9 : Int)))) fun (M7 : Int) =>
            x4.l1 K M3 k M7 (qg (M4 + (1 : Int))))
            (
            (yR.m K ((rd M3 M4).Len_)).bind fun Nd =>
            (yd.m K (qg ((rd M3 M4).Dist_ - (1 : Int))) (1 : Int)).bind fun Nf =>
            lt ((qg (M5 + (qg ((qg (Nd + (5 : Int))) + Nf))))) fun (M8 : Int) =>
            x4.l1 K M3 k M8 (qg (M4 + (1 : Int)))))))
      (
      .ok (M5, (0 : Int)))
def x4.m (K : Nat) (M3 : List qM) : qN (Int × Int) :=
  x4.l1 K M3 K (7 : Int) (0 : Int)
def jo.m (K : Nat) (M3 : List qM) : qN Bool :=
  (x4.m K M3).bind fun (M6, M5) =>
  lt ((M5 == (0 : Int))) fun (M4 : Bool) =>
  .ok M4
def zJ.j2 (K : Nat)  (M3 : (List Int)) : qN (List Int) :=
  .ok M3
def zJ.l1 (K : Nat) (M6 : List Int) : Nat → (List Int) → Int → Int → qN (List Int)
  | 0, _, _, _ => .fail
  | k + 1, M4, M7, M3 =>
    cond (decide (M3 ≤ (15 : Int)))
      (
      chk (inb (qg (M3 - (1 : Int))) 16) <|
      lt ((z8 .i64 (qg (M7 + (rd M6 (qg (M3 - (1 : Int)))))) (1 : Int))) fun (M5 : Int) =>
      chk (inb M3 16) <|
      lt (M4.set (Int.toNat M3) M5) fun (M9 : (List Int)) =>
      lt ((qg (M3 + (1 : Int)))) fun (M8 : Int) =>
      zJ.l1 K M6 k M9 M5 M8)
      (
      zJ.j2 K M4)
def zJ.m (K : Nat) (M3 : List Int) : qN (List Int) :=
  zJ.l1 K M3 K (List.replicate 16 (0 : Int)) (0 : Int) (1 : Int)
def x9.l1 (K : Nat) (M3 : List Int) : Nat → (List Int) → (List Int) → Int → qN ((List Int) × Int)
  | 0, _, _, _ => .fail
  | k + 1, M4, M5, M7 =>
    cond (decide (M7 < (M3.length : Int)))
      (
      chk (inb M7 M3.length) <|
      lt ((rd M3 M7)) fun (M6 : Int) =>
      cond (decide (M6 > (0 : Int)))
        (
        chk (inb M6 16) <|
        chk (inb M7 M5.length) <|
        lt (M5.set (Int.toNat M7) (rd M4 M6)) fun (M8 : (List Int)) =>
        lt (M4.set (Int.toNat M6) (qg ((rd M4 M6) + (1 : Int)))) fun (M9 : (List Int)) =>
        x9.l1 K M3 k M9 M8 (qg (M7 + (1 : Int))))
        (
        x9.l1 K M3 k M4 M5 (qg (M7 + (1 : Int)))))
      (
      .ok (M5, (0 : Int)))
def x9.m (K : Nat) (M3 : List Int) : qN ((List Int) × Int) :=
  (xr.m K M3).bind fun M4 =>
  cond (M4 != (0 : Int))
    (
    .ok (([] : List Int), M4))
    (
    (xh.m K M3).bind fun (M6, M8) =>
    (zJ.m K M6).bind fun M7 =>
    chk (decide (0 ≤ (M3.length : Int)) && room (Int.toNat (M3.length : Int)) 8) <|
    lt (List.replicate (Int.toNat (M3.length : Int)) (0 : Int)) fun (M5 : (List Int)) =>
    x9.l1 K M3 K M7 M5 (0 : Int))
def yg.m (K : Nat) (M3 : List Int) : qN (List Int) :=
  (x9.m K M3).bind fun (M4, M5) =>
  .ok M4
def q7.j4 (K : Nat) (M5 : (List Int)) (M6 : (List Int)) : qN ((List Int) × (List Int) × (List Int) × (List Int)) :=
  (yg.m K M5).bind fun M3 =>
  (yg.m K M6).bind fun M4 =>
  .ok (M5, M3, M6, M4)
def q7.l3 (K : Nat) (M5 : (List Int)) (M6 : (List Int)) : Nat → (List Int) → Int → qN ((List Int) × (List Int) × (List Int) × (List Int))
  | 0, _, _ => .fail
  | k + 1, M4, M3 =>
    cond (decide (M3 < (M6.length : Int)))
      (
      chk (inb M3 M4.length) <|
      lt (M4.set (Int.toNat M3) (5 : Int)) fun (M7 : (List Int)) =>
      q7.l3 K M5 M6 k M7 (qg (M3 + (1 : Int))))
      (
      q7.j4 K M5 M4)
def q7.j2 (K : Nat)  (M4 : (List Int)) : qN ((List Int) × (List Int) × (List Int) × (List Int)) :=
  chk (decide (0 ≤ (32 : Int)) && room (Int.toNat (32 : Int)) 8) <|
  lt (List.replicate (Int.toNat (32 : Int)) (0 : Int)) fun (M3 : (List Int)) =>
  q7.l3 K M4 M3 K M3 (0 : Int)
def q7.l1 (K : Nat) (M5 : (List Int)) : Nat → (List Int) → Int → qN ((List Int) × (List Int) × (List Int) × (List Int))
  | 0, _, _ => .fail
  | k + 1, M4, M3 =>
    cond (decide (M3 < (M5.length : Int)))
      (
      lt (((decide (M3 < (144 : Int))) || (decide (M3 ≥ (280 : Int))))) fun (M9 : Bool) =>
      cond M9
        (
        chk (inb M3 M4.length) <|
        lt (M4.set (Int.toNat M3) (8 : Int)) fun (M6 : (List Int)) =>
        q7.l1 K M5 k M6 (qg (M3 + (1 : Int))))
        (
        lt ((decide (M3 < (256 : Int)))) fun (Na : Bool) =>
        cond Na
          (
          chk (inb M3 M4.length) <|
          lt (M4.set (Int.toNat M3) (9 : Int)) fun (M7 : (List Int)) =>
          q7.l1 K M5 k M7 (qg (M3 + (1 : Int))))
          (
          chk (inb M3 M4.length) <|
          lt (M4.set (Int.toNat M3) (7 : Int)) fun (M8 : (List Int)) =>
          q7.l1 K M5 k M8 (qg (M3 + (1 : Int))))))
      (
      q7.j2 K M4)
def q7.m (K : Nat) : qN ((List Int) × (List Int) × (List Int) × (List Int)) :=
  chk (decide (0 ≤ (288 : Int)) && room (Int.toNat (288 : Int)) 8) <|
  lt (List.replicate (Int.toNat (288 : Int)) (0 : Int)) fun (M3 : (List Int)) =>
  q7.l1 K M3 K M3 (0 : Int)
def qn.j2 (K : Nat) (g1 : Int → (List Int) → Int → Int → qN (Int × Int × (List Int))) (M3 : Int) (M7 : Int) (M6 : Int) (M5 : (List Int)) : qN (Int × Int × (List Int)) :=
  lt ((if M6 < (qg ((8 : Int) - (xH .i64 M3 (7 : Int)))) then M6 else (qg ((8 : Int) - (xH .i64 M3 (7 : Int)))))) fun (M4 : Int) =>
  chk (inb (yb .i64 M3 (8 : Int)) M5.length) <|
  chk (decide (0 ≤ M4)) <|
  chk (decide (0 ≤ (xH .i64 M3 (7 : Int)))) <|
  lt (M5.set (Int.toNat (yb .i64 M3 (8 : Int))) (QS .u8 (rd M5 (yb .i64 M3 (8 : Int))) (z8 .u8 (wr .u8 (xH .u32 M7 (wr .u32 ((z8 .u32 (1 : Int) M4) - (1 : Int))))) (xH .i64 M3 (7 : Int))))) fun (M9 : (List Int)) =>
  lt ((xb .u32 M7 M4)) fun (Na : Int) =>
  lt ((qg (M6 - M4))) fun (M8 : Int) =>
  g1 (qg (M3 + M4)) M9 Na M8
def qn.l1 (K : Nat)  : Nat → Int → (List Int) → Int → Int → qN (Int × Int × (List Int))
  | 0, _, _, _, _ => .fail
  | k + 1, M4, M3, M6, M5 =>
    cond (decide (M5 > (0 : Int)))
      (
      cond ((xH .i64 M4 (7 : Int)) == (0 : Int))
        (
        chk (room (M3.length + ([(0 : Int)] : List Int).length) 1) <|
        lt (M3 ++ ([(0 : Int)] : List Int)) fun (M7 : (List Int)) =>
        qn.j2 K (qn.l1 K k) M4 M6 M5 M7)
        (
        qn.j2 K (qn.l1 K k) M4 M6 M5 M3))
      (
      .ok ((0 : Int), M4, M3))
def qn.m (K : Nat) (M4 : qp) (M5 : Int) (M3 : Int) : qN (Int × Int × (List Int)) :=
  chk (imp false ((decide (M3 < (0 : Int))) || (decide (M3 > (32 : Int)))) (decide (0 ≤ M3))) <|
  cond (((decide (M3 < (0 : Int))) || (decide (M3 > (32 : Int)))) || (decide ((xb .u64 (wr .u64 M5) M3) > (0 : Int))))
    (
    .ok ((1 : Int), M4.Writer_.place_.at_, M4.Writer_.bytes_))
    (
    qn.l1 K K M4.Writer_.place_.at_ M4.Writer_.bytes_ M5 M3)
def zK.l1 (K : Nat) (M3 : qp) (M8 : Int) : Nat → Int → (List Int) → Int → qN (Int × (List Int))
  | 0, _, _, _ => .fail
  | k + 1, M5, M4, M6 =>
    cond (decide (M6 ≥ (0 : Int)))
      (
      chk (inb M8 M3.literals_.codes_.length) <|
      chk (decide (0 ≤ M6)) <|
      (qn.m K (qp.mk (qS.mk (qr.mk M5) M4) M3.literals_ M3.distances_) (wr .u32 (xH .i64 (xb .i64 (rd M3.literals_.codes_ M8) M6) (1 : Int))) (1 : Int)).bind fun (Nb, M9, M7) =>
      lt ((qg (M6 - (1 : Int)))) fun (Na : Int) =>
      zK.l1 K M3 M8 k M9 M7 Na)
      (
      .ok (M5, M4))
def zK.m (K : Nat) (M3 : qp) (M6 : qv) (M4 : Int) : qN (Int × (List Int)) :=
  chk (inb M4 M3.literals_.lengths_.length) <|
  lt ((qg ((rd M3.literals_.lengths_ M4) - (1 : Int)))) fun (M5 : Int) =>
  zK.l1 K M3 M4 K M3.Writer_.place_.at_ M3.Writer_.bytes_ M5
def z6.j2 (K : Nat) (M6 : Int) (M4 : Int) (M3 : Int) (M5 : Int) : qN (Int × Int × Int) :=
  chk (decide (0 ≤ M4)) <|
  chk (decide (0 ≤ M3)) <|
  .ok ((qg ((z8 .i64 M3 M4) + M5)), M3, (wr .u32 (qg (M6 - (z8 .i64 M5 M3)))))
def z6.l1 (K : Nat) (M6 : Int) (M3 : Int) : Nat → Int → Int → qN (Int × Int × Int)
  | 0, _, _ => .fail
  | k + 1, M5, M4 =>
    chk (decide (0 ≤ M3)) <|
    cond (decide (M4 ≥ (z8 .i64 (2 : Int) M3)))
      (
      lt ((xb .i64 M4 (1 : Int))) fun (M7 : Int) =>
      lt ((qg (M5 + (1 : Int)))) fun (M8 : Int) =>
      z6.l1 K M6 M3 k M8 M7)
      (
      z6.j2 K M6 M3 M5 M4)
def z6.m (K : Nat) (M3 : Int) (M4 : Int) : qN (Int × Int × Int) :=
  z6.l1 K M3 M4 K (0 : Int) M3
def yP.m (K : Nat) (M6 : Int) : qN (Int × Int × Int) :=
  cond (M6 == (258 : Int))
    (
    .ok ((285 : Int), (0 : Int), (0 : Int)))
    (
    (z6.m K (qg (M6 - (3 : Int))) (2 : Int)).bind fun (M3, M4, M5) =>
    .ok ((qg (M3 + (257 : Int))), M4, M5))
def yh.m (K : Nat) (M3 : qp) (M9 : qv) (M6 : xV) : qN (Int × (List Int)) :=
  (zK.m K M3 M3.literals_ M6.symbol_).bind fun (M7, M4) =>
  (qn.m K (qp.mk (qS.mk (qr.mk M7) M4) M3.literals_ M3.distances_) M6.more_ M6.bits_).bind fun (Na, M8, M5) =>
  .ok (M8, M5)
def yA.m (K : Nat) (M6 : Int) : qN (Int × Int × Int) :=
  (z6.m K (qg (M6 - (1 : Int))) (1 : Int)).bind fun (M3, M4, M5) =>
  .ok (M3, M4, M5)
def z1.l1 (K : Nat) (M3 : qp) (M8 : Int) : Nat → Int → (List Int) → Int → qN (Int × (List Int))
  | 0, _, _, _ => .fail
  | k + 1, M5, M4, M6 =>
    cond (decide (M6 ≥ (0 : Int)))
      (
      chk (inb M8 M3.distances_.codes_.length) <|
      chk (decide (0 ≤ M6)) <|
      (qn.m K (qp.mk (qS.mk (qr.mk M5) M4) M3.literals_ M3.distances_) (wr .u32 (xH .i64 (xb .i64 (rd M3.distances_.codes_ M8) M6) (1 : Int))) (1 : Int)).bind fun (Nb, M9, M7) =>
      lt ((qg (M6 - (1 : Int)))) fun (Na : Int) =>
      z1.l1 K M3 M8 k M9 M7 Na)
      (
      .ok (M5, M4))
def z1.m (K : Nat) (M3 : qp) (M6 : qv) (M4 : Int) : qN (Int × (List Int)) :=
  chk (inb M4 M3.distances_.lengths_.length) <|
  lt ((qg ((rd M3.distances_.lengths_ M4) - (1 : Int)))) fun (M5 : Int) =>
  z1.l1 K M3 M4 K M3.Writer_.place_.at_ M3.Writer_.bytes_ M5
def yi.m (K : Nat) (M3 : qp) (M9 : qv) (M6 : xV) : qN (Int × (List Int)) :=
  (z1.m K M3 M3.distances_ M6.symbol_).bind fun (M7, M4) =>
  (qn.m K (qp.mk (qS.mk (qr.mk M7) M4) M3.literals_ M3.distances_) M6.more_ M6.bits_).bind fun (Na, M8, M5) =>
  .ok (M8, M5)
def zj.j2 (K : Nat) (M3 : qp) (M6 : Int) (M4 : (List Int)) : qN (Int × (List Int)) :=
  (zK.m K (qp.mk (qS.mk (qr.mk M6) M4) M3.literals_ M3.distances_) M3.literals_ (256 : Int)).bind fun (M7, M5) =>
  .ok (M7, M5)
def zj.l1 (K : Nat) (M3 : qp) (M4 : List qM) : Nat → Int → (List Int) → Int → qN (Int × (List Int))
  | 0, _, _, _ => .fail
  | k + 1, M7, M5, M6 =>
    cond (decide (M6 < (M4.length : Int)))
      (
      chk (inb M6 M4.length) <|
      cond ((rd M4 M6).Dist_ == (0 : Int))
        (
        (zK.m K (qp.mk (qS.mk (qr.mk M7) M5) M3.literals_ M3.distances_) M3.literals_ (wr .i64 (rd M4 M6).Lit_)).bind fun (Ni, Na) =>
        zj.l1 K M3 M4 k Ni Na (qg (M6 + (1 : Int))))
        (
        (yP.m K ((rd M4 M6).Len_)).bind fun (M8, Nd, Ng) =>
        (yh.m K (qp.mk (qS.mk (qr.mk M7) M5) M3.literals_ M3.distances_) M3.literals_ (xV.mk M8 Nd Ng)).bind fun (Nj, Nb) =>
        (yA.m K ((rd M4 M6).Dist_)).bind fun (M9, Nf, Nh) =>
        (yi.m K (qp.mk (qS.mk (qr.mk Nj) Nb) M3.literals_ M3.distances_) M3.distances_ (xV.mk M9 Nf Nh)).bind fun (Nk, Nc) =>
        zj.l1 K M3 M4 k Nk Nc (qg (M6 + (1 : Int)))))
      (
      zj.j2 K M3 M7 M5)
def zj.m (K : Nat) (M3 : qp) (M4 : List qM) : qN (Int × (List Int)) :=
  zj.l1 K M3 M4 K M3.Writer_.place_.at_ M3.Writer_.bytes_ (0 : Int)
def zX.m (K : Nat) (M3 : qp) : qN (List UInt8) :=
  lt ((M3.Writer_.bytes_.map v8)) fun (M4 : List UInt8) =>
  .ok M4
def jx.m (K : Nat) (M9 : List qM) : qN ((List UInt8) × Int) :=
  (jo.m K M9).bind fun Nc =>
  cond (!Nc)
    (
    .ok (([] : List UInt8), (1 : Int)))
    (
    (q7.m K).bind fun (M3, M5, M4, M6) =>
    (qn.m K (qp.mk (qS.mk (qr.mk (0 : Int)) ([] : List Int)) (qv.mk M3 M5) (qv.mk M4 M6)) (3 : Int) (3 : Int)).bind fun (Nf, Na, M7) =>
    (zj.m K (qp.mk (qS.mk (qr.mk Na) M7) (qv.mk M3 M5) (qv.mk M4 M6)) M9).bind fun (Nb, M8) =>
    (zX.m K (qp.mk (qS.mk (qr.mk Nb) M8) (qv.mk M3 M5) (qv.mk M4 M6))).bind fun Nd =>
    .ok (Nd, (0 : Int)))
def jN.m (K : Nat) (M3 : Int) : qN Bool :=
  lt (((decide (M3 < (0 : Int))) || (decide (M3 > (1099511627776 : Int))))) fun (M4 : Bool) =>
  .ok M4
def zA.l1 (K : Nat) (M4 : List Int) : Nat → Int → qN Int
  | 0, _ => .fail
  | k + 1, M3 =>
    cond (decide (M3 < (M4.length : Int)))
      (
      chk (inb M3 M4.length) <|
      (jN.m K (rd M4 M3)).bind fun M5 =>
      cond M5
        (
        .ok M3)
        (
        zA.l1 K M4 k (qg (M3 + (1 : Int)))))
      (
      .ok (-1 : Int))
def zA.m (K : Nat) (M3 : List Int) : qN Int :=
  zA.l1 K M3 K (0 : Int)
def xC.m (K : Nat) (M3 : List Int) : qN Bool :=
  (zA.m K M3).bind fun M5 =>
  lt ((decide (M5 ≥ (0 : Int)))) fun (M4 : Bool) =>
  .ok M4
def jh.m (K : Nat) (M3 : Int) : qN Bool :=
  lt ((M3 != M3)) fun (M4 : Bool) =>
  .ok M4
def yO.m (K : Nat) (M3 : Int) (M4 : Int) : qN Int :=
  (jh.m K M3).bind fun M6 =>
  (jh.m K M4).bind fun M5 =>
  cond M6
    (
    cond M5
      (
      .ok (0 : Int))
      (
      .ok (-1 : Int)))
    (
    cond M5
      (
      .ok (1 : Int))
      (
      cond (decide (M3 < M4))
        (
        .ok (-1 : Int))
        (
        cond (decide (M3 > M4))
          (
          .ok (1 : Int))
          (
          .ok (0 : Int)))))
def xR.m (K : Nat) (M3 : qb) (M5 : qb) : qN Int :=
  (yO.m K M3.often_ M5.often_).bind fun M4 =>
  .ok M4
def qc.j3 (K : Nat) (g1 : (List qb) → Int → qN (List qb)) (g2 : (List qb) → Int → qN (List qb)) (M7 : Int) (M3 : (List qb)) (M4 : Int) (Na : Bool) : qN (List qb) :=
  cond Na
    (
    chk (inb (qg (M4 - (1 : Int))) M3.length) <|
    chk (inb M4 M3.length) <|
    lt (M3.set (Int.toNat M4) (qb.mk ((rd M3 (qg (M4 - (1 : Int)))).often_) ((rd M3 (qg (M4 - (1 : Int)))).symbols_))) fun (M5 : (List qb)) =>
    chk (inb (qg (M4 - (1 : Int))) M5.length) <|
    lt (M5.set (Int.toNat (qg (M4 - (1 : Int)))) (qb.mk ((rd M3 M4).often_) ((rd M3 M4).symbols_))) fun (M6 : (List qb)) =>
    lt ((qg (M4 - (1 : Int)))) fun (M9 : Int) =>
    g2 M6 M9)
    (
    lt ((qg (M7 + (1 : Int)))) fun (M8 : Int) =>
    g1 M3 M8)
def qc.l2 (K : Nat) (g1 : (List qb) → Int → qN (List qb)) (M5 : Int) (M6 : Int) : Nat → (List qb) → Int → qN (List qb)
  | 0, _, _ => .fail
  | k + 1, M3, M4 =>
    cond (decide (M4 > M5))
      (
      chk (inb M4 M3.length) <|
      chk (inb (qg (M4 - (1 : Int))) M3.length) <|
      (xR.m K (qb.mk ((rd M3 M4).often_) ((rd M3 M4).symbols_)) (qb.mk ((rd M3 (qg (M4 - (1 : Int)))).often_) ((rd M3 (qg (M4 - (1 : Int)))).symbols_))).bind fun M7 =>
      qc.j3 K (g1) (qc.l2 K g1 M5 M6 k) M6 M3 M4 (decide (M7 < (0 : Int))))
      (
      qc.j3 K (g1) (qc.l2 K g1 M5 M6 k) M6 M3 M4 false)
def qc.l1 (K : Nat) (M4 : Int) (M5 : Int) : Nat → (List qb) → Int → qN (List qb)
  | 0, _, _ => .fail
  | k + 1, M3, M6 =>
    cond (decide (M6 < M5))
      (
      qc.l2 K (qc.l1 K M4 M5 k) M4 M6 K M3 M6)
      (
      .ok M3)
def qc.m (K : Nat) (M4 : List qb) (M3 : Int) (M5 : Int) : qN (List qb) :=
  lt ((qg (M3 + (1 : Int)))) fun (M6 : Int) =>
  qc.l1 K M3 M5 K M4 M6
def qJ.l1 (K : Nat) (M6 : Int) (M5 : Int) (M7 : Int) : Nat → (List qb) → Int → qN (List qb)
  | 0, _, _ => .fail
  | k + 1, M3, M4 =>
    cond (decide (M4 < M7))
      (
      chk (inb (qg (M5 + M4)) M3.length) <|
      chk (inb (qg (M6 + M4)) M3.length) <|
      lt (M3.set (Int.toNat (qg (M6 + M4))) (qb.mk ((rd M3 (qg (M5 + M4))).often_) ((rd M3 (qg (M5 + M4))).symbols_))) fun (M8 : (List qb)) =>
      chk (inb (qg (M5 + M4)) M8.length) <|
      lt (M8.set (Int.toNat (qg (M5 + M4))) (qb.mk ((rd M3 (qg (M6 + M4))).often_) ((rd M3 (qg (M6 + M4))).symbols_))) fun (M9 : (List qb)) =>
      lt ((qg (M4 + (1 : Int)))) fun (Na : Int) =>
      qJ.l1 K M6 M5 M7 k M9 Na)
      (
      .ok M3)
def qJ.m (K : Nat) (M3 : List qb) (M4 : Int) (M5 : Int) (M6 : Int) : qN (List qb) :=
  qJ.l1 K M4 M5 M6 K M3 (0 : Int)
def qw.j2 (K : Nat) (M6 : Int) (M3 : (List qb)) (M5 : Int) : qN (List qb) :=
  (qJ.m K M3 (qg (M6 - M5)) M6 M5).bind fun M4 =>
  .ok M4
def qw.l1 (K : Nat) (M6 : Int) : Nat → (List qb) → Int → Int → qN (List qb)
  | 0, _, _, _ => .fail
  | k + 1, M4, M3, M5 =>
    cond (M3 != M5)
      (
      cond (decide (M3 > M5))
        (
        (qJ.m K M4 (qg (M6 - M3)) M6 M5).bind fun M7 =>
        lt ((qg (M3 - M5))) fun (M9 : Int) =>
        qw.l1 K M6 k M7 M9 M5)
        (
        (qJ.m K M4 (qg (M6 - M3)) (qg ((qg (M6 + M5)) - M3)) M3).bind fun M8 =>
        lt ((qg (M5 - M3))) fun (Na : Int) =>
        qw.l1 K M6 k M8 M3 Na))
      (
      qw.j2 K M6 M4 M3)
def qw.m (K : Nat) (M3 : List qb) (M5 : Int) (M4 : Int) (M6 : Int) : qN (List qb) :=
  lt ((qg (M4 - M5))) fun (M7 : Int) =>
  lt ((qg (M6 - M4))) fun (M8 : Int) =>
  qw.l1 K M4 K M3 M7 M8
def qa.l3 (K : Nat) (rc : (List qb) → Int → Int → Int → qN (List qb)) (M6 : Int) : Nat → (List qb) → Int → qN (List qb)
  | 0, _, _ => .fail
  | k + 1, M3, M4 =>
    cond (decide (M4 < (qg (M6 - (1 : Int)))))
      (
      chk (inb (qg (M4 + (1 : Int))) M3.length) <|
      chk (inb M4 M3.length) <|
      lt (M3.set (Int.toNat M4) (qb.mk ((rd M3 (qg (M4 + (1 : Int)))).often_) ((rd M3 (qg (M4 + (1 : Int)))).symbols_))) fun (M5 : (List qb)) =>
      chk (inb (qg (M4 + (1 : Int))) M5.length) <|
      lt (M5.set (Int.toNat (qg (M4 + (1 : Int)))) (qb.mk ((rd M3 M4).often_) ((rd M3 M4).symbols_))) fun (M8 : (List qb)) =>
      lt ((qg (M4 + (1 : Int)))) fun (M7 : Int) =>
      qa.l3 K rc M6 k M8 M7)
      (
      .ok M3)
def qa.j2 (K : Nat) (rc : (List qb) → Int → Int → Int → qN (List qb)) (M3 : List qb) (M4 : Int) (M5 : Int) : qN (List qb) :=
  qa.l3 K rc M5 K M3 M4
def qa.l1 (K : Nat) (rc : (List qb) → Int → Int → Int → qN (List qb)) (M3 : List qb) (M4 : Int) : Nat → Int → Int → qN (List qb)
  | 0, _, _ => .fail
  | k + 1, M6, M7 =>
    cond (decide (M6 < M7))
      (
      lt ((wr .i64 (xb .u64 (wr .u64 (qg (M6 + M7))) (1 : Int)))) fun (M5 : Int) =>
      chk (inb M5 M3.length) <|
      chk (inb M4 M3.length) <|
      (xR.m K (qb.mk ((rd M3 M5).often_) ((rd M3 M5).symbols_)) (qb.mk ((rd M3 M4).often_) ((rd M3 M4).symbols_))).bind fun M9 =>
      cond (decide (M9 < (0 : Int)))
        (
        lt ((qg (M5 + (1 : Int)))) fun (M8 : Int) =>
        qa.l1 K rc M3 M4 k M8 M7)
        (
        qa.l1 K rc M3 M4 k M6 M5))
      (
      qa.j2 K rc M3 M4 M6)
def qa.l7 (K : Nat) (rc : (List qb) → Int → Int → Int → qN (List qb)) (M6 : Int) : Nat → (List qb) → Int → qN (List qb)
  | 0, _, _ => .fail
  | k + 1, M3, M4 =>
    cond (decide (M4 > M6))
      (
      chk (inb (qg (M4 - (1 : Int))) M3.length) <|
      chk (inb M4 M3.length) <|
      lt (M3.set (Int.toNat M4) (qb.mk ((rd M3 (qg (M4 - (1 : Int)))).often_) ((rd M3 (qg (M4 - (1 : Int)))).symbols_))) fun (M5 : (List qb)) =>
      chk (inb (qg (M4 - (1 : Int))) M5.length) <|
      lt (M5.set (Int.toNat (qg (M4 - (1 : Int)))) (qb.mk ((rd M3 M4).often_) ((rd M3 M4).symbols_))) fun (M8 : (List qb)) =>
      lt ((qg (M4 - (1 : Int)))) fun (M7 : Int) =>
      qa.l7 K rc M6 k M8 M7)
      (
      .ok M3)
def qa.j6 (K : Nat) (rc : (List qb) → Int → Int → Int → qN (List qb)) (M3 : List qb) (M5 : Int) (M4 : Int) : qN (List qb) :=
  qa.l7 K rc M4 K M3 M5
def qa.l5 (K : Nat) (rc : (List qb) → Int → Int → Int → qN (List qb)) (M3 : List qb) (M4 : Int) : Nat → Int → Int → qN (List qb)
  | 0, _, _ => .fail
  | k + 1, M6, M7 =>
    cond (decide (M6 < M7))
      (
      lt ((wr .i64 (xb .u64 (wr .u64 (qg (M6 + M7))) (1 : Int)))) fun (M5 : Int) =>
      chk (inb M4 M3.length) <|
      chk (inb M5 M3.length) <|
      (xR.m K (qb.mk ((rd M3 M4).often_) ((rd M3 M4).symbols_)) (qb.mk ((rd M3 M5).often_) ((rd M3 M5).symbols_))).bind fun M9 =>
      cond (!(decide (M9 < (0 : Int))))
        (
        lt ((qg (M5 + (1 : Int)))) fun (M8 : Int) =>
        qa.l5 K rc M3 M4 k M8 M7)
        (
        qa.l5 K rc M3 M4 k M6 M5))
      (
      qa.j6 K rc M3 M4 M6)
def qa.j13 (K : Nat) (rc : (List qb) → Int → Int → Int → qN (List qb)) (M6 : Int) (M5 : Int) (M3 : Int) (M4 : (List qb)) : qN (List qb) :=
  cond ((decide (M5 < M3)) && (decide (M3 < M6)))
    (
    (rc M4 M5 M3 M6).bind fun M7 =>
    .ok M7)
    (
    .ok M4)
def qa.j12 (K : Nat) (rc : (List qb) → Int → Int → Int → qN (List qb)) (M7 : Int) (M8 : Int) (M4 : Int) (M3 : Int) (M6 : Int) (M5 : (List qb)) : qN (List qb) :=
  cond ((decide (M7 < M3)) && (decide (M3 < M4)))
    (
    (rc M5 M7 M3 M4).bind fun M9 =>
    qa.j13 K rc M8 M4 M6 M9)
    (
    qa.j13 K rc M8 M4 M6 M5)
def qa.j11 (K : Nat) (rc : (List qb) → Int → Int → Int → qN (List qb)) (M5 : List qb) (M7 : Int) (Na : Int) (M8 : Int) (M6 : Int) (Nb : Int) (M3 : Int) : qN (List qb) :=
  lt ((qg (Nb - M3))) fun (M4 : Int) =>
  cond ((decide (M3 < Na)) && (decide (Na < M4)))
    (
    (qw.m K M5 M3 Na M4).bind fun M9 =>
    qa.j12 K rc M7 M8 M6 M3 M4 M9)
    (
    qa.j12 K rc M7 M8 M6 M3 M4 M5)
def qa.l10 (K : Nat) (rc : (List qb) → Int → Int → Int → qN (List qb)) (M3 : List qb) (M8 : Int) (Nc : Int) (M9 : Int) (M6 : Int) (Na : Int) (M7 : Int) : Nat → Int → Int → qN (List qb)
  | 0, _, _ => .fail
  | k + 1, M5, Nd =>
    cond (decide (M5 < Nd))
      (
      lt ((wr .i64 (xb .u64 (wr .u64 (qg (M5 + Nd))) (1 : Int)))) fun (M4 : Int) =>
      chk (inb (qg (M7 - M4)) M3.length) <|
      chk (inb M4 M3.length) <|
      (xR.m K (qb.mk ((rd M3 (qg (M7 - M4))).often_) ((rd M3 (qg (M7 - M4))).symbols_)) (qb.mk ((rd M3 M4).often_) ((rd M3 M4).symbols_))).bind fun Nf =>
      cond (!(decide (Nf < (0 : Int))))
        (
        lt ((qg (M4 + (1 : Int)))) fun (Nb : Int) =>
        qa.l10 K rc M3 M8 Nc M9 M6 Na M7 k Nb Nd)
        (
        qa.l10 K rc M3 M8 Nc M9 M6 Na M7 k M5 M4))
      (
      qa.j11 K rc M3 M8 Nc M9 M6 Na M5)
def qa.j9 (K : Nat) (rc : (List qb) → Int → Int → Int → qN (List qb)) (M4 : List qb) (M7 : Int) (M9 : Int) (M8 : Int) (M6 : Int) (M5 : Int) (M3 : Int) (Nb : Int) : qN (List qb) :=
  lt ((qg (M5 - (1 : Int)))) fun (Na : Int) =>
  qa.l10 K rc M4 M7 M9 M8 M6 M5 Na K M3 Nb
def qa.j8 (K : Nat) (rc : (List qb) → Int → Int → Int → qN (List qb)) (M6 : List qb) (M4 : Int) (M7 : Int) (M5 : Int) : qN (List qb) :=
  lt ((wr .i64 (xb .u64 (wr .u64 (qg (M4 + M5))) (1 : Int)))) fun (M3 : Int) =>
  lt ((qg (M3 + M7))) fun (M8 : Int) =>
  cond (decide (M7 > M3))
    (
    lt ((qg (M8 - M5))) fun (M9 : Int) =>
    qa.j9 K rc M6 M4 M7 M5 M3 M8 M9 M3)
    (
    qa.j9 K rc M6 M4 M7 M5 M3 M8 M4 M7)
def qa.j4 (K : Nat) (rc : (List qb) → Int → Int → Int → qN (List qb)) (M3 : List qb) (M5 : Int) (M4 : Int) (M6 : Int) : qN (List qb) :=
  cond ((qg (M6 - M4)) == (1 : Int))
    (
    qa.l5 K rc M3 M4 K M5 M4)
    (
    qa.j8 K rc M3 M5 M4 M6)
def qa.b (K : Nat) (rc : (List qb) → Int → Int → Int → qN (List qb)) (M3 : List qb) (M4 : Int) (M6 : Int) (M5 : Int) : qN (List qb) :=
  cond ((qg (M6 - M4)) == (1 : Int))
    (
    qa.l1 K rc M3 M4 K M6 M5)
    (
    qa.j4 K rc M3 M4 M6 M5)
def qa.r (K : Nat) : Nat → (List qb) → Int → Int → Int → qN (List qb)
  | 0 => fun _ _ _ _ => .fail
  | d + 1 => qa.b K (qa.r K d)
def qa.m (K : Nat) (M3 : List qb) (M4 : Int) (M6 : Int) (M5 : Int) : qN (List qb) := qa.r K K M3 M4 M6 M5
def qd.j5 (K : Nat) (g3 : (List qb) → Int → qN (List qb)) (M9 : Int) (M3 : Int) (M6 : (List qb)) (M7 : Int) : qN (List qb) :=
  lt ((qg (M7 + M3))) fun (Na : Int) =>
  cond (decide (Na < M9))
    (
    (qa.m K M6 M7 Na M9).bind fun M8 =>
    lt ((qg (M3 * (2 : Int)))) fun (M4 : Int) =>
    g3 M8 M4)
    (
    lt ((qg (M3 * (2 : Int)))) fun (M5 : Int) =>
    g3 M6 M5)
def qd.l4 (K : Nat) (g3 : (List qb) → Int → qN (List qb)) (M7 : Int) (M3 : Int) : Nat → (List qb) → Int → Int → qN (List qb)
  | 0, _, _, _ => .fail
  | k + 1, M5, M6, M4 =>
    cond (decide (M4 ≤ M7))
      (
      (qa.m K M5 M6 (qg (M6 + M3)) M4).bind fun M8 =>
      lt ((qg (M4 + (qg ((2 : Int) * M3))))) fun (M9 : Int) =>
      qd.l4 K g3 M7 M3 k M8 M4 M9)
      (
      qd.j5 K (g3) M7 M3 M5 M6)
def qd.l3 (K : Nat) (M5 : Int) : Nat → (List qb) → Int → qN (List qb)
  | 0, _, _ => .fail
  | k + 1, M4, M3 =>
    cond (decide (M3 < M5))
      (
      lt ((qg ((2 : Int) * M3))) fun (M6 : Int) =>
      qd.l4 K (qd.l3 K M5 k) M5 M3 K M4 (0 : Int) M6)
      (
      .ok M4)
def qd.j2 (K : Nat) (M5 : Int) (M3 : (List qb)) (M6 : Int) : qN (List qb) :=
  (qc.m K M3 M6 M5).bind fun M4 =>
  qd.l3 K M5 K M4 (20 : Int)
def qd.l1 (K : Nat) (M5 : Int) : Nat → (List qb) → Int → Int → qN (List qb)
  | 0, _, _, _ => .fail
  | k + 1, M4, M6, M3 =>
    cond (decide (M3 ≤ M5))
      (
      (qc.m K M4 M6 M3).bind fun M7 =>
      lt ((qg (M3 + (20 : Int)))) fun (M8 : Int) =>
      qd.l1 K M5 k M7 M3 M8)
      (
      qd.j2 K M5 M4 M6)
def qd.m (K : Nat) (M3 : List qb) (M4 : Int) : qN (List qb) :=
  qd.l1 K M4 K M3 (0 : Int) (20 : Int)
def qU.m (K : Nat) (M4 : List qb) : qN (List qb) :=
  (qd.m K M4 (M4.length : Int)).bind fun M3 =>
  .ok M3
def xO.m (K : Nat) (M4 : Int) : qN Unit :=
  cond (decide (M4 < (0 : Int)))
    (
    .pan (.iface QQ (xf ([99, 97, 110, 110, 111, 116, 32, 98, 101, 32, 110, 101, 103, 97, 116, 105, 118, 101] : List UInt8))))
    (
    lt ((qg (M4 - (qg ((0 : Int) - (0 : Int)))))) fun (M3 : Int) =>
    cond (decide (M3 > (0 : Int)))
      (
      chk (decide ((0 : Int) < M3) && room (Int.toNat M3) 8) <|
      .ok ())
      (
      .ok ()))
def qT.l3 (K : Nat) (M3 : List (List Int)) : Nat → (List Int) → Int → qN (List Int)
  | 0, _, _ => .fail
  | k + 1, M4, M5 =>
    cond (decide (M5 < (M3.length : Int)))
      (
      chk (inb M5 M3.length) <|
      chk (room (M4.length + (rd M3 M5).length) 8) <|
      lt (M4 ++ (rd M3 M5)) fun (M6 : (List Int)) =>
      qT.l3 K M3 k M6 (qg (M5 + (1 : Int))))
      (
      .ok M4)
def qT.j2 (K : Nat) (M3 : List (List Int)) (M4 : Int) : qN (List Int) :=
  (xO.m K M4).bind fun _ =>
  qT.l3 K M3 K ([] : List Int) (0 : Int)
def qT.l1 (K : Nat) (M3 : List (List Int)) : Nat → Int → Int → qN (List Int)
  | 0, _, _ => .fail
  | k + 1, M4, M6 =>
    cond (decide (M6 < (M3.length : Int)))
      (
      chk (inb M6 M3.length) <|
      lt ((qg (M4 + ((rd M3 M6).length : Int)))) fun (M5 : Int) =>
      cond (decide (M5 < (0 : Int)))
        (
        .pan (.iface QQ (xf ([108, 101, 110, 32, 111, 117, 116, 32, 111, 102, 32, 114, 97, 110, 103, 101] : List UInt8))))
        (
        qT.l1 K M3 k M5 (qg (M6 + (1 : Int)))))
      (
      qT.j2 K M3 M4)
def qT.m (K : Nat) (M3 : List (List Int)) : qN (List Int) :=
  qT.l1 K M3 K (0 : Int) (0 : Int)
def xX.l1 (K : Nat) (M3 : List qb) : Nat → (List qb) → Int → qN (List qb)
  | 0, _, _ => .fail
  | k + 1, M5, M4 =>
    cond (decide ((qg (M4 + (1 : Int))) < (M3.length : Int)))
      (
      chk (inb M4 M3.length) <|
      chk (inb (qg (M4 + (1 : Int))) M3.length) <|
      (qT.m K ([(rd M3 M4).symbols_, (rd M3 (qg (M4 + (1 : Int)))).symbols_] : List (List Int))).bind fun M6 =>
      chk (room (M5.length + ([(qb.mk (qg ((rd M3 M4).often_ + (rd M3 (qg (M4 + (1 : Int)))).often_)) M6)] : List qb).length) 32) <|
      lt (M5 ++ ([(qb.mk (qg ((rd M3 M4).often_ + (rd M3 (qg (M4 + (1 : Int)))).often_)) M6)] : List qb)) fun (M7 : (List qb)) =>
      lt ((qg (M4 + (2 : Int)))) fun (M8 : Int) =>
      xX.l1 K M3 k M7 M8)
      (
      .ok M5)
def xX.m (K : Nat) (M3 : List qb) : qN (List qb) :=
  xX.l1 K M3 K ([] : List qb) (0 : Int)
def zY.m (K : Nat) (M4 : Int) : qN Unit :=
  cond (decide (M4 < (0 : Int)))
    (
    .pan (.iface QQ (xf ([99, 97, 110, 110, 111, 116, 32, 98, 101, 32, 110, 101, 103, 97, 116, 105, 118, 101] : List UInt8))))
    (
    lt ((qg (M4 - (qg ((0 : Int) - (0 : Int)))))) fun (M3 : Int) =>
    cond (decide (M3 > (0 : Int)))
      (
      chk (decide ((0 : Int) < M3) && room (Int.toNat M3) 32) <|
      .ok ())
      (
      .ok ()))
def qu.l3 (K : Nat) (M3 : List (List qb)) : Nat → (List qb) → Int → qN (List qb)
  | 0, _, _ => .fail
  | k + 1, M4, M5 =>
    cond (decide (M5 < (M3.length : Int)))
      (
      chk (inb M5 M3.length) <|
      chk (room (M4.length + (rd M3 M5).length) 32) <|
      lt (M4 ++ (rd M3 M5)) fun (M6 : (List qb)) =>
      qu.l3 K M3 k M6 (qg (M5 + (1 : Int))))
      (
      .ok M4)
def qu.j2 (K : Nat) (M3 : List (List qb)) (M4 : Int) : qN (List qb) :=
  (zY.m K M4).bind fun _ =>
  qu.l3 K M3 K ([] : List qb) (0 : Int)
def qu.l1 (K : Nat) (M3 : List (List qb)) : Nat → Int → Int → qN (List qb)
  | 0, _, _ => .fail
  | k + 1, M4, M6 =>
    cond (decide (M6 < (M3.length : Int)))
      (
      chk (inb M6 M3.length) <|
      lt ((qg (M4 + ((rd M3 M6).length : Int)))) fun (M5 : Int) =>
      cond (decide (M5 < (0 : Int)))
        (
        .pan (.iface QQ (xf ([108, 101, 110, 32, 111, 117, 116, 32, 111, 102, 32, 114, 97, 110, 103, 101] : List UInt8))))
        (
        qu.l1 K M3 k M5 (qg (M6 + (1 : Int)))))
      (
      qu.j2 K M3 M4)
def qu.m (K : Nat) (M3 : List (List qb)) : qN (List qb) :=
  qu.l1 K M3 K (0 : Int) (0 : Int)
def yZ.m (K : Nat) (M3 : List qb) (M4 : List qb) : qN (List qb) :=
  (qu.m K ([M3, M4] : List (List qb))).bind fun M5 =>
  (qU.m K M5).bind fun M6 =>
  .ok M6
def qy.l8 (K : Nat) (g7 : (List Int) → Int → qN ((List Int) × Int)) (M4 : (List qb)) (M5 : Int) : Nat → (List Int) → Int → qN ((List Int) × Int)
  | 0, _, _ => .fail
  | k + 1, M3, M6 =>
    cond (decide (M6 < (((rd M4 M5).symbols_).length : Int)))
      (
      chk (inb M6 ((rd M4 M5).symbols_).length) <|
      lt ((rd ((rd M4 M5).symbols_) M6)) fun (M7 : Int) =>
      chk (inb M7 M3.length) <|
      lt (M3.set (Int.toNat M7) (qg ((rd M3 M7) + (1 : Int)))) fun (M8 : (List Int)) =>
      qy.l8 K g7 M4 M5 k M8 (qg (M6 + (1 : Int))))
      (
      g7 M3 (qg (M5 + (1 : Int))))
def qy.l7 (K : Nat) (M3 : (List qb)) : Nat → (List Int) → Int → qN ((List Int) × Int)
  | 0, _, _ => .fail
  | k + 1, M4, M5 =>
    cond (decide (M5 < (M3.length : Int)))
      (
      chk (inb M5 M3.length) <|
      qy.l8 K (qy.l7 K M3 k) M3 M5 K M4 (0 : Int))
      (
      .ok (M4, (0 : Int)))
def qy.j6 (K : Nat) (M4 : (List Int)) (M5 : (List qb)) (M3 : (List qb)) : qN ((List Int) × Int) :=
  chk (subok (0 : Int) (qg ((qg ((2 : Int) * (M5.length : Int))) - (2 : Int))) M3.length) <|
  lt (sub M3 (0 : Int) (qg ((qg ((2 : Int) * (M5.length : Int))) - (2 : Int)))) fun (M6 : (List qb)) =>
  qy.l7 K M6 K M4 (0 : Int)
def qy.l5 (K : Nat) (M3 : Int) (M4 : (List Int)) (M6 : (List qb)) : Nat → (List qb) → Int → qN ((List Int) × Int)
  | 0, _, _ => .fail
  | k + 1, M5, M7 =>
    cond (decide (M7 < (qg (M3 - (1 : Int)))))
      (
      (xX.m K M5).bind fun M8 =>
      (yZ.m K M6 M8).bind fun M9 =>
      qy.l5 K M3 M4 M6 k M9 (qg (M7 + (1 : Int))))
      (
      qy.j6 K M4 M6 M5)
def qy.j4 (K : Nat) (M5 : Int) (M3 : (List qb)) (M4 : (List Int)) : qN ((List Int) × Int) :=
  cond (decide ((M3.length : Int) < (2 : Int)))
    (
    .ok (M4, (0 : Int)))
    (
    (qU.m K M3).bind fun M6 =>
    qy.l5 K M5 M4 M6 K M6 (0 : Int))
def qy.j3 (K : Nat) (M5 : List Int) (M4 : Int) (M3 : (List qb)) : qN ((List Int) × Int) :=
  chk (decide (0 ≤ M4)) <|
  cond (decide ((M3.length : Int) > (z8 .i64 (1 : Int) M4)))
    (
    .ok (([] : List Int), (1 : Int)))
    (
    chk (decide (0 ≤ (M5.length : Int)) && room (Int.toNat (M5.length : Int)) 8) <|
    lt (List.replicate (Int.toNat (M5.length : Int)) (0 : Int)) fun (M6 : (List Int)) =>
    cond ((M3.length : Int) == (1 : Int))
      (
      chk (inb (0 : Int) M3.length) <|
      chk (inb (0 : Int) ((rd M3 (0 : Int)).symbols_).length) <|
      chk (inb (rd ((rd M3 (0 : Int)).symbols_) (0 : Int)) M6.length) <|
      lt (M6.set (Int.toNat (rd ((rd M3 (0 : Int)).symbols_) (0 : Int))) (1 : Int)) fun (M7 : (List Int)) =>
      qy.j4 K M4 M3 M7)
      (
      qy.j4 K M4 M3 M6))
def qy.l2 (K : Nat) (M3 : List Int) (M5 : Int) : Nat → (List qb) → Int → qN ((List Int) × Int)
  | 0, _, _ => .fail
  | k + 1, M4, M6 =>
    cond (decide (M6 < (M3.length : Int)))
      (
      chk (inb M6 M3.length) <|
      lt ((rd M3 M6)) fun (M7 : Int) =>
      cond (decide (M7 > (0 : Int)))
        (
        chk (room (M4.length + ([(qb.mk M7 ([M6] : List Int))] : List qb).length) 32) <|
        lt (M4 ++ ([(qb.mk M7 ([M6] : List Int))] : List qb)) fun (M8 : (List qb)) =>
        qy.l2 K M3 M5 k M8 (qg (M6 + (1 : Int))))
        (
        qy.l2 K M3 M5 k M4 (qg (M6 + (1 : Int)))))
      (
      qy.j3 K M3 M5 M4)
def qy.j1 (K : Nat) (M3 : List Int) (M4 : Int) (M5 : Bool) : qN ((List Int) × Int) :=
  cond M5
    (
    .ok (([] : List Int), (1 : Int)))
    (
    qy.l2 K M3 M4 K ([] : List qb) (0 : Int))
def qy.m (K : Nat) (M3 : List Int) (M4 : Int) : qN ((List Int) × Int) :=
  cond (((decide (M4 < (1 : Int))) || (decide (M4 > (15 : Int)))) || (decide ((M3.length : Int) > (320 : Int))))
    (
    qy.j1 K M3 M4 true)
    (
    (xC.m K M3).bind fun M5 =>
    qy.j1 K M3 M4 M5)
def qW.j4 (K : Nat)  (M3 : (List Int)) : qN ((List Int) × (List Int)) :=
  (qy.m K M3 (15 : Int)).bind fun (M4, M5) =>
  .ok (M4, M3)
def qW.l3 (K : Nat)  : Nat → (List Int) → Int → Int → qN ((List Int) × (List Int))
  | 0, _, _, _ => .fail
  | k + 1, M3, M5, M4 =>
    cond (decide (M5 < (2 : Int)))
      (
      chk (inb M4 M3.length) <|
      cond ((rd M3 M4) == (0 : Int))
        (
        lt (M3.set (Int.toNat M4) (qg ((rd M3 M4) + (1 : Int)))) fun (M7 : (List Int)) =>
        lt ((qg (M5 + (1 : Int)))) fun (M6 : Int) =>
        lt ((qg (M4 + (1 : Int)))) fun (M8 : Int) =>
        qW.l3 K k M7 M6 M8)
        (
        lt ((qg (M4 + (1 : Int)))) fun (M9 : Int) =>
        qW.l3 K k M3 M5 M9))
      (
      qW.j4 K M3)
def qW.j2 (K : Nat) (M3 : List Int) (M4 : Int) : qN ((List Int) × (List Int)) :=
  qW.l3 K K M3 M4 (0 : Int)
def qW.l1 (K : Nat) (M3 : List Int) : Nat → Int → Int → qN ((List Int) × (List Int))
  | 0, _, _ => .fail
  | k + 1, M6, M4 =>
    cond (decide (M4 < (M3.length : Int)))
      (
      chk (inb M4 M3.length) <|
      lt ((rd M3 M4)) fun (M5 : Int) =>
      lt ((qg (M6 + (if (1 : Int) < M5 then (1 : Int) else M5)))) fun (M7 : Int) =>
      qW.l1 K M3 k M7 (qg (M4 + (1 : Int))))
      (
      qW.j2 K M3 M6)
def qW.m (K : Nat) (M3 : List Int) : qN ((List Int) × (List Int)) :=
  qW.l1 K M3 K (0 : Int) (0 : Int)
def qP.j4 (K : Nat) (g1 : (List qi) → Int → qN (List qi)) (M5 : List Int) (M3 : (List qi)) (M6 : Int) (M4 : Int) : qN (List qi) :=
  chk (inb M6 M5.length) <|
  lt ((((rd M5 M6) == (0 : Int)) && (decide (M4 ≥ (11 : Int))))) fun (Ni : Bool) =>
  cond Ni
    (
    lt ((if (138 : Int) < M4 then (138 : Int) else M4)) fun (M7 : Int) =>
    chk (room (M3.length + ([(qi.mk (18 : Int) (qg (M7 - (11 : Int))) (7 : Int))] : List qi).length) 24) <|
    lt (M3 ++ ([(qi.mk (18 : Int) (qg (M7 - (11 : Int))) (7 : Int))] : List qi)) fun (M9 : (List qi)) =>
    lt ((qg (M6 + M7))) fun (Nd : Int) =>
    g1 M9 Nd)
    (
    lt ((((rd M5 M6) == (0 : Int)) && (decide (M4 ≥ (3 : Int))))) fun (Nj : Bool) =>
    cond Nj
      (
      chk (room (M3.length + ([(qi.mk (17 : Int) (qg (M4 - (3 : Int))) (3 : Int))] : List qi).length) 24) <|
      lt (M3 ++ ([(qi.mk (17 : Int) (qg (M4 - (3 : Int))) (3 : Int))] : List qi)) fun (Na : (List qi)) =>
      lt ((qg (M6 + M4))) fun (Nf : Int) =>
      g1 Na Nf)
      (
      lt ((decide (M4 ≥ (4 : Int)))) fun (Nk : Bool) =>
      cond Nk
        (
        lt ((if (7 : Int) < M4 then (7 : Int) else M4)) fun (M8 : Int) =>
        chk (room (M3.length + ([(qi.mk (rd M5 M6) (0 : Int) (0 : Int)), (qi.mk (16 : Int) (qg (M8 - (4 : Int))) (2 : Int))] : List qi).length) 24) <|
        lt (M3 ++ ([(qi.mk (rd M5 M6) (0 : Int) (0 : Int)), (qi.mk (16 : Int) (qg (M8 - (4 : Int))) (2 : Int))] : List qi)) fun (Nb : (List qi)) =>
        lt ((qg (M6 + M8))) fun (Ng : Int) =>
        g1 Nb Ng)
        (
        chk (room (M3.length + ([(qi.mk (rd M5 M6) (0 : Int) (0 : Int))] : List qi).length) 24) <|
        lt (M3 ++ ([(qi.mk (rd M5 M6) (0 : Int) (0 : Int))] : List qi)) fun (Nc : (List qi)) =>
        lt ((qg (M6 + (1 : Int)))) fun (Nh : Int) =>
        g1 Nc Nh)))
def qP.j3 (K : Nat) (g1 : (List qi) → Int → qN (List qi)) (g2 : Int → qN (List qi)) (M5 : List Int) (M4 : (List qi)) (M7 : Int) (M3 : Int) (M8 : Bool) : qN (List qi) :=
  cond M8
    (
    lt ((qg (M3 + (1 : Int)))) fun (M6 : Int) =>
    g2 M6)
    (
    qP.j4 K (g1) M5 M4 M7 M3)
def qP.l2 (K : Nat) (g1 : (List qi) → Int → qN (List qi)) (M3 : List Int) (M5 : (List qi)) (M4 : Int) : Nat → Int → qN (List qi)
  | 0, _ => .fail
  | k + 1, M6 =>
    cond (decide ((qg (M4 + M6)) < (M3.length : Int)))
      (
      chk (inb (qg (M4 + M6)) M3.length) <|
      chk (inb M4 M3.length) <|
      qP.j3 K (g1) (qP.l2 K g1 M3 M5 M4 k) M3 M5 M4 M6 ((rd M3 (qg (M4 + M6))) == (rd M3 M4)))
      (
      qP.j3 K (g1) (qP.l2 K g1 M3 M5 M4 k) M3 M5 M4 M6 false)
def qP.l1 (K : Nat) (M3 : List Int) : Nat → (List qi) → Int → qN (List qi)
  | 0, _, _ => .fail
  | k + 1, M4, M5 =>
    cond (decide (M5 < (M3.length : Int)))
      (
      qP.l2 K (qP.l1 K M3 k) M3 M4 M5 K (1 : Int))
      (
      .ok M4)
def qP.m (K : Nat) (M3 : List Int) : qN (List qi) :=
  qP.l1 K M3 K ([] : List qi) (0 : Int)
def zN.l1 (K : Nat) (M5 : qp) (M4 : qv) (M9 : Int) : Nat → Int → (List Int) → Int → qN (Int × (List Int))
  | 0, _, _, _ => .fail
  | k + 1, M6, M3, M7 =>
    cond (decide (M7 ≥ (0 : Int)))
      (
      chk (inb M9 M4.codes_.length) <|
      chk (decide (0 ≤ M7)) <|
      (qn.m K (qp.mk (qS.mk (qr.mk M6) M3) M5.literals_ M5.distances_) (wr .u32 (xH .i64 (xb .i64 (rd M4.codes_ M9) M7) (1 : Int))) (1 : Int)).bind fun (Nc, Na, M8) =>
      lt ((qg (M7 - (1 : Int)))) fun (Nb : Int) =>
      zN.l1 K M5 M4 M9 k Na M8 Nb)
      (
      .ok (M6, M3))
def zN.m (K : Nat) (M4 : qp) (M3 : qv) (M5 : Int) : qN (Int × (List Int)) :=
  chk (inb M5 M3.lengths_.length) <|
  lt ((qg ((rd M3.lengths_ M5) - (1 : Int)))) fun (M6 : Int) =>
  zN.l1 K M4 M3 M5 K M4.Writer_.place_.at_ M4.Writer_.bytes_ M6
def qh.j12 (K : Nat) (Nb : List qM) (M9 : (List Int)) (M3 : (List Int)) (Na : (List Int)) (M4 : (List Int)) (M7 : Int) (M5 : (List Int)) : qN ((List UInt8) × Int) :=
  (zj.m K (qp.mk (qS.mk (qr.mk M7) M5) (qv.mk M9 M3) (qv.mk Na M4)) Nb).bind fun (M8, M6) =>
  (zX.m K (qp.mk (qS.mk (qr.mk M8) M6) (qv.mk M9 M3) (qv.mk Na M4))).bind fun Nc =>
  .ok (Nc, (0 : Int))
def qh.l11 (K : Nat) (Nf : List qM) (Na : (List Int)) (M3 : (List Int)) (Nb : (List Int)) (M4 : (List Int)) (M8 : (List qi)) (Ni : (List Int)) (M6 : (List Int)) : Nat → Int → (List Int) → Int → qN ((List UInt8) × Int)
  | 0, _, _, _ => .fail
  | k + 1, M9, M5, M7 =>
    cond (decide (M7 < (M8.length : Int)))
      (
      chk (inb M7 M8.length) <|
      (zN.m K (qp.mk (qS.mk (qr.mk M9) M5) (qv.mk Na M3) (qv.mk Nb M4)) (qv.mk Ni M6) ((rd M8 M7).symbol_)).bind fun (Ng, Nc) =>
      (qn.m K (qp.mk (qS.mk (qr.mk Ng) Nc) (qv.mk Na M3) (qv.mk Nb M4)) (wr .u32 (rd M8 M7).more_) ((rd M8 M7).bits_)).bind fun (Nj, Nh, Nd) =>
      qh.l11 K Nf Na M3 Nb M4 M8 Ni M6 k Nh Nd (qg (M7 + (1 : Int))))
      (
      qh.j12 K Nf Na M3 Nb M4 M9 M5)
def qh.j10 (K : Nat) (M8 : List qM) (M9 : (List Int)) (M4 : (List Int)) (Na : (List Int)) (M5 : (List Int)) (Nb : (List qi)) (Nc : (List Int)) (M6 : (List Int)) (M7 : Int) (M3 : (List Int)) : qN ((List UInt8) × Int) :=
  qh.l11 K M8 M9 M4 Na M5 Nb Nc M6 K M7 M3 (0 : Int)
def qh.l9 (K : Nat) (Nb : List qM) (Nc : (List Int)) (M3 : (List Int)) (Nd : (List Int)) (M4 : (List Int)) (Nh : (List qi)) (M9 : (List Int)) (M6 : (List Int)) : Nat → Int → (List Int) → Int → qN ((List UInt8) × Int)
  | 0, _, _, _ => .fail
  | k + 1, M7, M5, M8 =>
    cond (decide (M8 < (19 : Int)))
      (
      chk (inb M8 19) <|
      lt ((rd tab_deflate_order M8)) fun (Ng : Int) =>
      chk (inb Ng M9.length) <|
      (qn.m K (qp.mk (qS.mk (qr.mk M7) M5) (qv.mk Nc M3) (qv.mk Nd M4)) (wr .u32 (rd M9 Ng)) (3 : Int)).bind fun (Ni, Nf, Na) =>
      qh.l9 K Nb Nc M3 Nd M4 Nh M9 M6 k Nf Na (qg (M8 + (1 : Int))))
      (
      qh.j10 K Nb Nc M3 Nd M4 Nh M9 M6 M7 M5)
def qh.j8 (K : Nat) (Nj : List qM) (M5 : (List Int)) (M3 : (List Int)) (M6 : (List Int)) (M4 : (List Int)) (Nk : (List qi)) (Nc : (List Int)) : qN ((List UInt8) × Int) :=
  (qy.m K Nc (7 : Int)).bind fun (Ni, Nl) =>
  (yg.m K Ni).bind fun Nb =>
  (qn.m K (qp.mk (qS.mk (qr.mk (0 : Int)) ([] : List Int)) (qv.mk M5 M3) (qv.mk M6 M4)) (5 : Int) (3 : Int)).bind fun (Nm, Nd, M7) =>
  (qn.m K (qp.mk (qS.mk (qr.mk Nd) M7) (qv.mk M5 M3) (qv.mk M6 M4)) (29 : Int) (5 : Int)).bind fun (Nn, Nf, M8) =>
  (qn.m K (qp.mk (qS.mk (qr.mk Nf) M8) (qv.mk M5 M3) (qv.mk M6 M4)) (29 : Int) (5 : Int)).bind fun (No, Ng, M9) =>
  (qn.m K (qp.mk (qS.mk (qr.mk Ng) M9) (qv.mk M5 M3) (qv.mk M6 M4)) (15 : Int) (4 : Int)).bind fun (Np, Nh, Na) =>
  qh.l9 K Nj M5 M3 M6 M4 Nk Ni Nb K Nh Na (0 : Int)
def qh.j7 (K : Nat) (M6 : List qM) (M8 : (List Int)) (M4 : (List Int)) (M9 : (List Int)) (M5 : (List Int)) (Na : (List qi)) (M3 : (List Int)) (Nb : Int) : qN ((List UInt8) × Int) :=
  cond (decide (Nb < (2 : Int)))
    (
    chk (inb (0 : Int) M3.length) <|
    chk (inb (1 : Int) M3.length) <|
    lt (M3.set (Int.toNat (0 : Int)) (if (1 : Int) > (rd M3 (0 : Int)) then (1 : Int) else (rd M3 (0 : Int)))) fun (M7 : (List Int)) =>
    chk (inb (1 : Int) M7.length) <|
    lt (M7.set (Int.toNat (1 : Int)) (if (1 : Int) > (rd M3 (1 : Int)) then (1 : Int) else (rd M3 (1 : Int)))) fun (Nc : (List Int)) =>
    qh.j8 K M6 M8 M4 M9 M5 Na Nc)
    (
    qh.j8 K M6 M8 M4 M9 M5 Na M3)
def qh.l6 (K : Nat) (M8 : List qM) (Na : (List Int)) (M4 : (List Int)) (Nb : (List Int)) (M5 : (List Int)) (Nc : (List qi)) (M3 : (List Int)) : Nat → Int → Int → qN ((List UInt8) × Int)
  | 0, _, _ => .fail
  | k + 1, M9, M6 =>
    cond (decide (M6 < (M3.length : Int)))
      (
      chk (inb M6 M3.length) <|
      lt ((rd M3 M6)) fun (M7 : Int) =>
      lt ((qg (M9 + (if (1 : Int) < M7 then (1 : Int) else M7)))) fun (Nd : Int) =>
      qh.l6 K M8 Na M4 Nb M5 Nc M3 k Nd (qg (M6 + (1 : Int))))
      (
      qh.j7 K M8 Na M4 Nb M5 Nc M3 M9)
def qh.j5 (K : Nat) (M6 : List qM) (M7 : (List Int)) (M3 : (List Int)) (M8 : (List Int)) (M4 : (List Int)) (M9 : (List qi)) (M5 : (List Int)) : qN ((List UInt8) × Int) :=
  qh.l6 K M6 M7 M3 M8 M4 M9 M5 K (0 : Int) (0 : Int)
def qh.l4 (K : Nat) (M8 : List qM) (M9 : (List Int)) (M5 : (List Int)) (Na : (List Int)) (M6 : (List Int)) (M4 : (List qi)) : Nat → (List Int) → Int → qN ((List UInt8) × Int)
  | 0, _, _ => .fail
  | k + 1, M3, M7 =>
    cond (decide (M7 < (M4.length : Int)))
      (
      chk (inb M7 M4.length) <|
      chk (inb (rd M4 M7).symbol_ M3.length) <|
      lt (M3.set (Int.toNat (rd M4 M7).symbol_) (qg ((rd M3 (rd M4 M7).symbol_) + (1 : Int)))) fun (Nb : (List Int)) =>
      qh.l4 K M8 M9 M5 Na M6 M4 k Nb (qg (M7 + (1 : Int))))
      (
      qh.j5 K M8 M9 M5 Na M6 M4 M3)
def qh.j3 (K : Nat) (Na : List qM) (M4 : (List Int)) (M3 : (List Int)) : qN ((List UInt8) × Int) :=
  (qW.m K M4).bind fun (M5, Nd) =>
  (yg.m K M5).bind fun M7 =>
  (qW.m K M3).bind fun (M6, Nf) =>
  (yg.m K M6).bind fun M8 =>
  chk (room (([] : List Int).length + M5.length) 8) <|
  lt (([] : List Int) ++ M5) fun (M9 : (List Int)) =>
  chk (room (M9.length + M6.length) 8) <|
  lt (M9 ++ M6) fun (Nb : (List Int)) =>
  (qP.m K Nb).bind fun Ng =>
  chk (decide (0 ≤ (19 : Int)) && room (Int.toNat (19 : Int)) 8) <|
  lt (List.replicate (Int.toNat (19 : Int)) (0 : Int)) fun (Nc : (List Int)) =>
  qh.l4 K Na M5 M7 M6 M8 Ng K Nc (0 : Int)
def qh.l2 (K : Nat) (M5 : List qM) : Nat → (List Int) → (List Int) → Int → qN ((List UInt8) × Int)
  | 0, _, _, _ => .fail
  | k + 1, M3, M4, M6 =>
    cond (decide (M6 < (M5.length : Int)))
      (
      chk (inb M6 M5.length) <|
      cond ((rd M5 M6).Dist_ == (0 : Int))
        (
        chk (inb (rd M5 M6).Lit_ M3.length) <|
        lt (M3.set (Int.toNat (rd M5 M6).Lit_) (qg ((rd M3 (rd M5 M6).Lit_) + (1 : Int)))) fun (M9 : (List Int)) =>
        qh.l2 K M5 k M9 M4 (qg (M6 + (1 : Int))))
        (
        (yP.m K ((rd M5 M6).Len_)).bind fun (M7, Nc, Nf) =>
        chk (inb M7 M3.length) <|
        lt (M3.set (Int.toNat M7) (qg ((rd M3 M7) + (1 : Int)))) fun (Na : (List Int)) =>
        (yA.m K ((rd M5 M6).Dist_)).bind fun (M8, Nd, Ng) =>
        chk (inb M8 M4.length) <|
        lt (M4.set (Int.toNat M8) (qg ((rd M4 M8) + (1 : Int)))) fun (Nb : (List Int)) =>
        qh.l2 K M5 k Na Nb (qg (M6 + (1 : Int)))))
      (
      qh.j3 K M5 M3 M4)
def qh.j1 (K : Nat) (M5 : List qM) (M3 : (List Int)) (M4 : (List Int)) : qN ((List UInt8) × Int) :=
  chk (inb (256 : Int) M3.length) <|
  lt (M3.set (Int.toNat (256 : Int)) (qg ((rd M3 (256 : Int)) + (1 : Int)))) fun (M6 : (List Int)) =>
  qh.l2 K M5 K M6 M4 (0 : Int)
def qh.m (K : Nat) (M3 : List qM) : qN ((List UInt8) × Int) :=
  (jo.m K M3).bind fun M6 =>
  cond (!M6)
    (
    .ok (([] : List UInt8), (1 : Int)))
    (
    chk (decide (0 ≤ (286 : Int)) && room (Int.toNat (286 : Int)) 8) <|
    lt (List.replicate (Int.toNat (286 : Int)) (0 : Int)) fun (M4 : (List Int)) =>
    chk (decide (0 ≤ (30 : Int)) && room (Int.toNat (30 : Int)) 8) <|
    lt (List.replicate (Int.toNat (30 : Int)) (0 : Int)) fun (M5 : (List Int)) =>
    qh.j1 K M3 M4 M5)
def z3.j1 (K : Nat) (M5 : (List qM)) (M3 : List UInt8) : qN (List UInt8) :=
  (qh.m K M5).bind fun (M4, M6) =>
  cond ((M6 == (0 : Int)) && (decide ((M4.length : Int) < (M3.length : Int))))
    (
    .ok M4)
    (
    .ok M3)
def z3.m (K : Nat) (M4 : List UInt8) : qN (List UInt8) :=
  (zW.m K M4).bind fun M3 =>
  (zU.m K M4).bind fun M5 =>
  (jx.m K M3).bind fun (M6, M7) =>
  cond ((M7 == (0 : Int)) && (decide ((M6.length : Int) < (M5.length : Int))))
    (
    z3.j1 K M3 M6)
    (
    z3.j1 K M3 M5)
def QH.m (K : Nat) (M4 : List UInt8) : qN (List UInt8) :=
  (j0.m K M4).bind fun M7 =>
  (xl.m K (wr .u64 M7) (4 : Int)).bind fun (M5, M8) =>
  (z3.m K M4).bind fun M3 =>
  chk (Vj (([120, 156] : List UInt8).length + M3.length)) <|
  chk (Vj ((([120, 156] : List UInt8) ++ M3).length + M5.length)) <|
  lt (((([120, 156] : List UInt8) ++ M3) ++ M5)) fun (M6 : List UInt8) =>
  .ok M6
def yS.m (K : Nat) (M3 : Int) : qN (List UInt8) :=
  lt ((([(wr .u8 (yb .u32 M3 (16777216 : Int))), (wr .u8 (yb .u32 M3 (65536 : Int))), (wr .u8 (yb .u32 M3 (256 : Int))), (wr .u8 M3)] : List Int).map v8)) fun (M4 : List UInt8) =>
  .ok M4
def qQ.j3 (K : Nat)  (M3 : Bool) : qN Bool :=
  .ok M3
def qQ.j2 (K : Nat) (M4 : List UInt8) (M3 : Int) (M5 : (List Int)) : qN Bool :=
  (jn.m K (M5.map v8) (M4.length : Int)).bind fun (M8, M9, M6) =>
  cond ((M6 == (4 : Int)) == (M3 != (0 : Int)))
    (
    (yp.m K).bind fun M7 =>
    qQ.j3 K M7)
    (
    qQ.j3 K false)
def qQ.l1 (K : Nat) (M8 : List UInt8) (M3 : Int) (M5 : Int) (M7 : List UInt8) : Nat → (List Int) → Int → qN Bool
  | 0, _, _ => .fail
  | k + 1, M6, M4 =>
    cond (decide (M4 < (4 : Int)))
      (
      chk (inb (qg (M5 + M4)) M6.length) <|
      chk (inb M4 M7.length) <|
      lt (M6.set (Int.toNat (qg (M5 + M4))) (ub .u8 (rd M6 (qg (M5 + M4))) ((rd M7 M4).toNat : Int))) fun (M9 : (List Int)) =>
      lt ((qg (M4 + (1 : Int)))) fun (Na : Int) =>
      qQ.l1 K M8 M3 M5 M7 k M9 Na)
      (
      qQ.j2 K M8 M3 M6)
def qQ.m (K : Nat) (M5 : List UInt8) (M3 : Int) : qN Bool :=
  cond (decide ((M5.length : Int) > (20000 : Int)))
    (
    (yp.m K).bind fun M8 =>
    .ok M8)
    (
    (QH.m K M5).bind fun M6 =>
    chk (Vj M6.length) <|
    lt (M6.map vA) fun (M4 : (List Int)) =>
    cond (decide ((M4.length : Int) < (4 : Int)))
      (
      .ok false)
      (
      lt ((qg ((M4.length : Int) - (4 : Int)))) fun (M7 : Int) =>
      (yS.m K M3).bind fun M9 =>
      qQ.l1 K M5 M3 M7 M9 K M4 (0 : Int)))
end Go.Mo
