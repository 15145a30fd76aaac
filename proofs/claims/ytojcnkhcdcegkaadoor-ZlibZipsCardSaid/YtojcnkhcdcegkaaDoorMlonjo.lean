/- Models of the Go functions that this statement reaches, printed by a program of mine: nothing is proved but lengths of tables. -/
import Derived.Test.YtojcnkhcdcegkaaDoorOwnonnlh
set_option linter.unusedVariables false
set_option linter.unusedSimpArgs false
namespace Go.Mo
open Go Go.Sl
structure yc where
  text_ : List UInt8
  base_ : Int
  deriving Inhabited
structure qr where
  at_ : Int
  deriving Inhabited
structure qH where
  place_ : qr
  text_ : List UInt8
  deriving Inhabited
structure qx where
  Reader_ : qH
  out_ : (List Int)
  limit_ : Int
  deriving Inhabited
structure qI where
  counts_ : (List Int)
  symbols_ : (List Int)
  deriving Inhabited
structure xA where
  from_ : Int
  bits_ : Int
  deriving Inhabited
structure qM where
  Lit_ : Int
  Len_ : Int
  Dist_ : Int
  deriving Inhabited
structure xn where
  text_ : List UInt8
  seen_ : (List ((List Int) × (List Int)))
  deriving Inhabited
structure qR where
  place_ : qr
  bytes_ : (List Int)
  deriving Inhabited
structure qv where
  lengths_ : (List Int)
  codes_ : (List Int)
  deriving Inhabited
structure qp where
  Writer_ : qR
  literals_ : qv
  distances_ : qv
  deriving Inhabited
structure xT where
  symbol_ : Int
  bits_ : Int
  more_ : Int
  deriving Inhabited
structure qb where
  often_ : Int
  symbols_ : (List Int)
  deriving Inhabited
structure qi where
  symbol_ : Int
  more_ : Int
  bits_ : Int
  deriving Inhabited
abbrev Ql : TypeId := 9
abbrev xC : TypeId := 92
def tab_deflate_order : List Int := [16, 17, 18, 0, 8, 7, 9, 6, 10, 5, 11, 4, 12, 3, 13, 2, 14, 1, 15]
theorem uO : tab_deflate_order.length = 19 := by decide
def tab_inflate_lengths : List xA := [⟨3, 0⟩, ⟨4, 0⟩, ⟨5, 0⟩, ⟨6, 0⟩, ⟨7, 0⟩, ⟨8, 0⟩, ⟨9, 0⟩, ⟨10, 0⟩, ⟨11, 1⟩, ⟨13, 1⟩, ⟨15, 1⟩, ⟨17, 1⟩, ⟨19, 2⟩, ⟨23, 2⟩, ⟨27, 2⟩, ⟨31, 2⟩, ⟨35, 3⟩, ⟨43, 3⟩, ⟨51, 3⟩, ⟨59, 3⟩, ⟨67, 4⟩, ⟨83, 4⟩, ⟨99, 4⟩, ⟨115, 4⟩, ⟨131, 5⟩, ⟨163, 5⟩, ⟨195, 5⟩, ⟨227, 5⟩, ⟨258, 0⟩]
def tab_inflate_distances : List xA := [⟨1, 0⟩, ⟨2, 0⟩, ⟨3, 0⟩, ⟨4, 0⟩, ⟨5, 1⟩, ⟨7, 1⟩, ⟨9, 2⟩, ⟨13, 2⟩, ⟨17, 3⟩, ⟨25, 3⟩, ⟨33, 4⟩, ⟨49, 4⟩, ⟨65, 5⟩, ⟨97, 5⟩, ⟨129, 6⟩, ⟨193, 6⟩, ⟨257, 7⟩, ⟨385, 7⟩, ⟨513, 8⟩, ⟨769, 8⟩, ⟨1025, 9⟩, ⟨1537, 9⟩, ⟨2049, 10⟩, ⟨3073, 10⟩, ⟨4097, 11⟩, ⟨6145, 11⟩, ⟨8193, 12⟩, ⟨12289, 12⟩, ⟨16385, 13⟩, ⟨24577, 13⟩]
def tab_inflate_order : List Int := [16, 17, 18, 0, 8, 7, 9, 6, 10, 5, 11, 4, 12, 3, 13, 2, 14, 1, 15]
theorem uP : tab_inflate_order.length = 19 := by decide
def Yb.m (K : Nat) (s6 : List UInt8) : qN Unit :=
  .ok ()
def jZ.m (K : Nat) (LY : Int) : qN Bool :=
  lt ((((decide (LY > (0 : Int))) && (decide (LY ≤ (8 : Int)))) && ((xD .i64 LY (qh (LY - (1 : Int)))) == (0 : Int)))) fun (LZ : Bool) =>
  .ok LZ
def jd.m (K : Nat) (LZ : yc) (LY : Int) (L0 : Int) : qN ((List UInt8) × Int × Int) :=
  cond ((decide (LY < (0 : Int))) || (decide (L0 < (0 : Int))))
    (
    .ok (([] : List UInt8), (0 : Int), (1 : Int)))
    (
    cond ((decide (LY > (LZ.text_.length : Int))) || (decide (L0 > (qh ((LZ.text_.length : Int) - LY)))))
      (
      .ok (([] : List UInt8), (0 : Int), (2 : Int)))
      (
      chk (subok LY (qh (LY + L0)) LZ.text_.length) <|
      .ok ((sub LZ.text_ LY (qh (LY + L0))), (qh (LZ.base_ + LY)), (0 : Int))))
def yP.m (K : Nat) (LY : Int) : qN Unit :=
  .ok ()
def x9.m (K : Nat) (LY : Int) (LZ : Int) : qN Int :=
  lt ((qh ((qh (LZ - (1 : Int))) - LY))) fun (L0 : Int) =>
  .ok L0
def zS.l1 (K : Nat) (LY : Int) (LZ : List UInt8) : Nat → Int → Int → qN (Int × Int)
  | 0, _, _ => .fail
  | k + 1, L0, L1 =>
    cond (decide (L1 < LY))
      (
      (x9.m K L1 LY).bind fun L4 =>
      chk (inb L4 LZ.length) <|
      chk (decide (0 ≤ (qh ((8 : Int) * L1)))) <|
      lt ((Qo .u64 L0 (z6 .u64 (wr .u64 ((rd LZ L4).toNat : Int)) (qh ((8 : Int) * L1))))) fun (L3 : Int) =>
      zS.l1 K LY LZ k L3 (qh (L1 + (1 : Int))))
      (
      .ok (L0, (0 : Int)))
def zS.m (K : Nat) (L3 : yc) (L0 : Int) (LY : Int) : qN (Int × Int) :=
  (jZ.m K LY).bind fun L5 =>
  cond (!L5)
    (
    .ok ((0 : Int), (1 : Int)))
    (
    (jd.m K L3 L0 LY).bind fun (LZ, L1, L4) =>
    cond (L4 != (0 : Int))
      (
      .ok ((0 : Int), L4))
      (
      (yP.m K LY).bind fun _ =>
      zS.l1 K LY LZ K (0 : Int) (0 : Int)))
def QM.m (K : Nat) (LY : List UInt8) : qN Unit :=
  .ok ()
def zI.j2 (K : Nat) (LZ : qH) (LY : Int) (L0 : Int) : qN (Int × Int × Int) :=
  chk (decide (0 ≤ (xD .i64 LZ.place_.at_ (7 : Int)))) <|
  lt ((z9 .u64 L0 (xD .i64 LZ.place_.at_ (7 : Int)))) fun (L1 : Int) =>
  chk (decide (0 ≤ LY)) <|
  lt ((wr .u32 (xD .u64 L1 (wr .u64 ((z6 .u64 (1 : Int) LY) - (1 : Int)))))) fun (L3 : Int) =>
  .ok (L3, (0 : Int), (qh (LZ.place_.at_ + LY)))
def zI.l1 (K : Nat) (L1 : qH) (L0 : Int) (LY : Int) : Nat → Int → Int → qN (Int × Int × Int)
  | 0, _, _ => .fail
  | k + 1, L3, LZ =>
    cond (decide ((qh ((8 : Int) * (qh (LY + LZ)))) < (qh (L1.place_.at_ + L0))))
      (
      chk (inb (qh (LY + LZ)) L1.text_.length) <|
      chk (decide (0 ≤ (qh ((8 : Int) * LZ)))) <|
      lt ((Qo .u64 L3 (z6 .u64 (wr .u64 ((rd L1.text_ (qh (LY + LZ))).toNat : Int)) (qh ((8 : Int) * LZ))))) fun (L5 : Int) =>
      lt ((qh (LZ + (1 : Int)))) fun (L4 : Int) =>
      zI.l1 K L1 L0 LY k L5 L4)
      (
      zI.j2 K L1 L0 L3)
def zI.m (K : Nat) (LZ : qH) (LY : Int) : qN (Int × Int × Int) :=
  lt (((decide (LY < (0 : Int))) || (decide (LY > (32 : Int))))) fun (L1 : Bool) =>
  cond L1
    (
    .ok ((0 : Int), (1 : Int), LZ.place_.at_))
    (
    lt ((decide (LY > (qh ((qh ((8 : Int) * (LZ.text_.length : Int))) - LZ.place_.at_))))) fun (L3 : Bool) =>
    cond L3
      (
      .ok ((0 : Int), (2 : Int), LZ.place_.at_))
      (
      lt ((xX .i64 LZ.place_.at_ (8 : Int))) fun (L0 : Int) =>
      zI.l1 K LZ LY L0 K (0 : Int) (0 : Int)))
def yt.m (K : Nat) (LY : Int) : qN Unit :=
  cond (LY != (0 : Int))
    (
    .pan (.iface xC (.agg ⟨[.int .i64 LY]⟩)))
    (
    .ok ())
def zP.m (K : Nat) (L0 : qx) (LZ : Int) : qN (Int × Int) :=
  (zI.m K L0.Reader_ LZ).bind fun (L3, L4, LY) =>
  (yt.m K L4).bind fun _ =>
  lt ((wr .i64 L3)) fun (L1 : Int) =>
  .ok (L1, LY)
def xU.m (K : Nat) (LY : qH) : qN Int :=
  .ok (Yx .i64 (qh (LY.place_.at_ + (7 : Int))) (7 : Int))
def yl.m (K : Nat) (L1 : qH) (L0 : Int) : qN ((List UInt8) × Int × Int) :=
  cond (decide (L0 < (0 : Int)))
    (
    .ok (([] : List UInt8), (1 : Int), L1.place_.at_))
    (
    (xU.m K L1).bind fun LY =>
    chk (subok (xX .i64 LY (8 : Int)) (L1.text_.length : Int) L1.text_.length) <|
    lt ((sub L1.text_ (xX .i64 LY (8 : Int)) (L1.text_.length : Int))) fun (LZ : List UInt8) =>
    cond (decide (L0 > (LZ.length : Int)))
      (
      .ok (([] : List UInt8), (2 : Int), LY))
      (
      chk (subok (0 : Int) L0 LZ.length) <|
      lt ((sub LZ (0 : Int) L0)) fun (L3 : List UInt8) =>
      .ok (L3, (0 : Int), (qh (LY + (qh ((8 : Int) * L0)))))))
def zM.m (K : Nat) (LY : Bool) (LZ : Int) : qN Unit :=
  cond LY
    (
    .pan (.iface xC (.agg ⟨[.int .i64 LZ]⟩)))
    (
    .ok ())
def x5.m (K : Nat) (LZ : qx) : qN (Int × (List Int)) :=
  (yl.m K LZ.Reader_ (4 : Int)).bind fun (LY, L6, L1) =>
  (yt.m K L6).bind fun _ =>
  chk (inb (0 : Int) LY.length) <|
  chk (inb (1 : Int) LY.length) <|
  lt ((Qo .i64 (wr .i64 ((rd LY (0 : Int)).toNat : Int)) (z6 .i64 (wr .i64 ((rd LY (1 : Int)).toNat : Int)) (8 : Int)))) fun (L0 : Int) =>
  chk (inb (2 : Int) LY.length) <|
  chk (inb (3 : Int) LY.length) <|
  (zM.m K ((Qo .i64 (wr .i64 ((rd LY (2 : Int)).toNat : Int)) (z6 .i64 (wr .i64 ((rd LY (3 : Int)).toNat : Int)) (8 : Int))) != (Zs .i64 L0 (65535 : Int))) (3 : Int)).bind fun _ =>
  (yl.m K (qH.mk (qr.mk L1) LZ.Reader_.text_) L0).bind fun (L4, L7, L3) =>
  (yt.m K L7).bind fun _ =>
  (zM.m K (decide ((qh ((LZ.out_.length : Int) + L0)) > LZ.limit_)) (11 : Int)).bind fun _ =>
  chk (room (LZ.out_.length + L4.length) 1) <|
  lt (LZ.out_ ++ L4.map Qg) fun (L5 : (List Int)) =>
  .ok (L3, L5)
def xh.j2 (K : Nat)  (LY : (List Int)) : qN ((List Int) × Bool) :=
  lt (LY.set (Int.toNat (0 : Int)) (0 : Int)) fun (LZ : (List Int)) =>
  .ok (LZ, true)
def xh.l1 (K : Nat) (LY : List Int) : Nat → (List Int) → Int → qN ((List Int) × Bool)
  | 0, _, _ => .fail
  | k + 1, L0, L1 =>
    cond (decide (L1 < (LY.length : Int)))
      (
      chk (inb L1 LY.length) <|
      lt ((rd LY L1)) fun (LZ : Int) =>
      cond ((decide (LZ < (0 : Int))) || (decide (LZ > (15 : Int))))
        (
        .ok (L0, false))
        (
        chk (inb LZ 16) <|
        lt (L0.set (Int.toNat LZ) (qh ((rd L0 LZ) + (1 : Int)))) fun (L3 : (List Int)) =>
        xh.l1 K LY k L3 (qh (L1 + (1 : Int)))))
      (
      xh.j2 K L0)
def xh.m (K : Nat) (LY : List Int) : qN ((List Int) × Bool) :=
  cond (decide ((LY.length : Int) > (320 : Int)))
    (
    .ok ((List.replicate 16 (0 : Int)), false))
    (
    xh.l1 K LY K (List.replicate 16 (0 : Int)) (0 : Int))
def xr.j2 (K : Nat) (LZ : (List Int)) (LY : Int) : qN Int :=
  cond (((LY == (0 : Int)) || (LY == (32768 : Int))) || (LZ == ([0, (1 : Int), 0, 0, 0, 0, 0, 0, 0, 0, 0, 0, 0, 0, 0, 0] : List Int)))
    (
    .ok (0 : Int))
    (
    .ok (3 : Int))
def xr.l1 (K : Nat) (L1 : (List Int)) : Nat → Int → Int → qN Int
  | 0, _, _ => .fail
  | k + 1, LZ, LY =>
    cond (decide (LY < (16 : Int)))
      (
      chk (inb LY 16) <|
      lt ((rd L1 LY)) fun (L3 : Int) =>
      chk (decide (0 ≤ LY)) <|
      lt ((qh (LZ + (qh (L3 * (z9 .i64 (32768 : Int) LY)))))) fun (L0 : Int) =>
      xr.l1 K L1 k L0 (qh (LY + (1 : Int))))
      (
      xr.j2 K L1 LZ)
def xr.m (K : Nat) (LY : List Int) : qN Int :=
  (xh.m K LY).bind fun (LZ, L0) =>
  cond (!L0)
    (
    .ok (1 : Int))
    (
    xr.l1 K LZ K (0 : Int) (0 : Int))
def xK.l2 (K : Nat) (g1 : (List Int) → Int → qN ((Option qI) × Int)) (LY : List Int) (L1 : Int) : Nat → (List Int) → Int → qN ((Option qI) × Int)
  | 0, _, _ => .fail
  | k + 1, LZ, L0 =>
    cond (decide (L0 < (LY.length : Int)))
      (
      chk (inb L0 LY.length) <|
      lt ((rd LY L0)) fun (L3 : Int) =>
      cond (L3 == L1)
        (
        chk (room (LZ.length + ([L0] : List Int).length) 8) <|
        lt (LZ ++ ([L0] : List Int)) fun (L5 : (List Int)) =>
        xK.l2 K g1 LY L1 k L5 (qh (L0 + (1 : Int))))
        (
        xK.l2 K g1 LY L1 k LZ (qh (L0 + (1 : Int)))))
      (
      lt ((qh (L1 + (1 : Int)))) fun (L4 : Int) =>
      g1 LZ L4)
def xK.l1 (K : Nat) (LY : List Int) (L1 : (List Int)) : Nat → (List Int) → Int → qN ((Option qI) × Int)
  | 0, _, _ => .fail
  | k + 1, LZ, L0 =>
    cond (decide (L0 ≤ (15 : Int)))
      (
      xK.l2 K (xK.l1 K LY L1 k) LY L0 K LZ (0 : Int))
      (
      .ok ((some (qI.mk L1 LZ)), (0 : Int)))
def xK.m (K : Nat) (LY : List Int) : qN ((Option qI) × Int) :=
  (xr.m K LY).bind fun LZ =>
  cond (LZ != (0 : Int))
    (
    .ok (none, LZ))
    (
    (xh.m K LY).bind fun (L0, L1) =>
    xK.l1 K LY L0 K ([] : List Int) (1 : Int))
def yg.m (K : Nat) (LY : List Int) : qN (Option qI) :=
  (xK.m K LY).bind fun (LZ, L0) =>
  (zM.m K (L0 != (0 : Int)) (3 : Int)).bind fun _ =>
  .ok LZ
def zq.j2 (K : Nat) (g1 : (List Int) → Int → qN ((Option qI) × (Option qI))) (LY : Int) (LZ : (List Int)) : qN ((Option qI) × (Option qI)) :=
  cond ((decide (LY ≥ (256 : Int))) && (decide (LY < (280 : Int))))
    (
    lt (LZ.set (Int.toNat LY) (7 : Int)) fun (L0 : (List Int)) =>
    g1 L0 (qh (LY + (1 : Int))))
    (
    g1 LZ (qh (LY + (1 : Int))))
def zq.j5 (K : Nat) (LY : (List Int)) (LZ : (List Int)) : qN ((Option qI) × (Option qI)) :=
  (yg.m K LY).bind fun L0 =>
  (yg.m K LZ).bind fun L1 =>
  .ok (L0, L1)
def zq.l4 (K : Nat) (LZ : (List Int)) : Nat → (List Int) → Int → qN ((Option qI) × (Option qI))
  | 0, _, _ => .fail
  | k + 1, L0, LY =>
    cond (decide (LY < (32 : Int)))
      (
      chk (inb LY 32) <|
      lt (L0.set (Int.toNat LY) (5 : Int)) fun (L1 : (List Int)) =>
      zq.l4 K LZ k L1 (qh (LY + (1 : Int))))
      (
      zq.j5 K LZ L0)
def zq.j3 (K : Nat)  (LY : (List Int)) : qN ((Option qI) × (Option qI)) :=
  zq.l4 K LY K (List.replicate 32 (0 : Int)) (0 : Int)
def zq.l1 (K : Nat)  : Nat → (List Int) → Int → qN ((Option qI) × (Option qI))
  | 0, _, _ => .fail
  | k + 1, LZ, LY =>
    cond (decide (LY < (288 : Int)))
      (
      chk (inb LY 288) <|
      lt (LZ.set (Int.toNat LY) (8 : Int)) fun (L0 : (List Int)) =>
      cond ((decide (LY ≥ (144 : Int))) && (decide (LY < (256 : Int))))
        (
        lt (L0.set (Int.toNat LY) (9 : Int)) fun (L1 : (List Int)) =>
        zq.j2 K (zq.l1 K k) LY L1)
        (
        zq.j2 K (zq.l1 K k) LY L0))
      (
      zq.j3 K LZ)
def zq.m (K : Nat) : qN ((Option qI) × (Option qI)) :=
  zq.l1 K K (List.replicate 288 (0 : Int)) (0 : Int)
def z7.j2 (K : Nat) (LZ : qH) (LY : Int) : qN (Int × Int × Int) :=
  .ok ((0 : Int), (3 : Int), LZ.place_.at_)
def z7.l1 (K : Nat) (L9 : qI) (Mb : qH) : Nat → Int → Int → Int → Int → Int → qN (Int × Int × Int)
  | 0, _, _, _, _, _ => .fail
  | k + 1, L3, Ma, L5, LY, L8 =>
    cond (decide (LY < (L9.symbols_.length : Int)))
      (
      (zI.m K (qH.mk (qr.mk L3) Mb.text_) (1 : Int)).bind fun (Mf, Md, L4) =>
      cond (Md != (0 : Int))
        (
        .ok ((0 : Int), Md, Mb.place_.at_))
        (
        lt ((Qo .i64 (z6 .i64 Ma (1 : Int)) (wr .i64 Mf))) fun (L0 : Int) =>
        lt ((z6 .i64 L5 (1 : Int))) fun (LZ : Int) =>
        chk (inb L8 16) <|
        lt ((rd L9.counts_ L8)) fun (L7 : Int) =>
        cond (decide ((qh (L0 - LZ)) < L7))
          (
          chk (inb (qh ((qh (LY + L0)) - LZ)) L9.symbols_.length) <|
          lt ((rd L9.symbols_ (qh ((qh (LY + L0)) - LZ)))) fun (Me : Int) =>
          .ok (Me, (0 : Int), L4))
          (
          lt ((qh (LZ + L7))) fun (L6 : Int) =>
          lt ((qh (LY + L7))) fun (L1 : Int) =>
          lt ((qh (L8 + (1 : Int)))) fun (Mc : Int) =>
          z7.l1 K L9 Mb k L4 L0 L6 L1 Mc)))
      (
      z7.j2 K Mb L3)
def z7.m (K : Nat) (LZ : qI) (LY : qH) : qN (Int × Int × Int) :=
  z7.l1 K LZ LY K LY.place_.at_ (0 : Int) (0 : Int) (0 : Int) (1 : Int)
def xI.m (K : Nat) (LZ : qx) (L0 : qI) : qN (Int × Int) :=
  (z7.m K L0 LZ.Reader_).bind fun (L1, L3, LY) =>
  (yt.m K L3).bind fun _ =>
  .ok (L1, LY)
def x7.m (K : Nat) (L0 : qx) (LZ : xA) : qN (Int × Int) :=
  (zP.m K L0 LZ.bits_).bind fun (L3, LY) =>
  lt ((qh (LZ.from_ + L3))) fun (L1 : Int) =>
  .ok (L1, LY)
def qU.l2 (K : Nat) (g1 : Int → (List Int) → qN (Int × (List Int))) (L3 : Int) (L0 : Int) (LZ : Int) : Nat → (List Int) → Int → qN (Int × (List Int))
  | 0, _, _ => .fail
  | k + 1, LY, L1 =>
    cond (decide (L1 < L3))
      (
      chk (inb (qh ((LY.length : Int) - L0)) LY.length) <|
      chk (room (LY.length + ([(rd LY (qh ((LY.length : Int) - L0)))] : List Int).length) 1) <|
      lt (LY ++ ([(rd LY (qh ((LY.length : Int) - L0)))] : List Int)) fun (L4 : (List Int)) =>
      qU.l2 K g1 L3 L0 LZ k L4 (qh (L1 + (1 : Int))))
      (
      g1 LZ LY)
def qU.l1 (K : Nat) (L0 : qx) (LZ : qI) (L1 : qI) : Nat → Int → (List Int) → qN (Int × (List Int))
  | 0, _, _ => .fail
  | k + 1, Mb, LY =>
    (xI.m K (qx.mk (qH.mk (qr.mk Mb) L0.Reader_.text_) LY L0.limit_) LZ).bind fun (L3, L4) =>
    lt ((L3 == (256 : Int))) fun (Md : Bool) =>
    cond Md
      (
      .ok (L4, LY))
      (
      lt ((decide (L3 < (256 : Int)))) fun (Me : Bool) =>
      cond Me
        (
        (zM.m K ((LY.length : Int) == L0.limit_) (11 : Int)).bind fun _ =>
        chk (room (LY.length + ([(wr .u8 L3)] : List Int).length) 1) <|
        lt (LY ++ ([(wr .u8 L3)] : List Int)) fun (Mc : (List Int)) =>
        qU.l1 K L0 LZ L1 k L4 Mc)
        (
        (zM.m K (decide (L3 ≥ (286 : Int))) (3 : Int)).bind fun _ =>
        chk (inb (qh (L3 - (257 : Int))) 29) <|
        (x7.m K (qx.mk (qH.mk (qr.mk L4) L0.Reader_.text_) LY L0.limit_) (xA.mk ((rd tab_inflate_lengths (qh (L3 - (257 : Int)))).from_) ((rd tab_inflate_lengths (qh (L3 - (257 : Int)))).bits_))).bind fun (L9, L6) =>
        (xI.m K (qx.mk (qH.mk (qr.mk L6) L0.Reader_.text_) LY L0.limit_) L1).bind fun (L5, L7) =>
        (zM.m K (decide (L5 ≥ (30 : Int))) (3 : Int)).bind fun _ =>
        chk (inb L5 30) <|
        (x7.m K (qx.mk (qH.mk (qr.mk L7) L0.Reader_.text_) LY L0.limit_) (xA.mk ((rd tab_inflate_distances L5).from_) ((rd tab_inflate_distances L5).bits_))).bind fun (Ma, L8) =>
        (zM.m K (decide (Ma > (LY.length : Int))) (3 : Int)).bind fun _ =>
        (zM.m K (decide ((qh ((LY.length : Int) + L9)) > L0.limit_)) (11 : Int)).bind fun _ =>
        qU.l2 K (qU.l1 K L0 LZ L1 k) L9 Ma L8 K LY (0 : Int)))
def qU.m (K : Nat) (L0 : qx) (LY : qI) (LZ : qI) : qN (Int × (List Int)) :=
  qU.l1 K L0 LY LZ K L0.Reader_.place_.at_ L0.out_
def qO.l3 (K : Nat) (g1 : Int → (List Int) → qN ((List Int) × Int)) (L1 : Int) (LY : Int) (LZ : Int) : Nat → (List Int) → Int → qN ((List Int) × Int)
  | 0, _, _ => .fail
  | k + 1, L0, L3 =>
    cond (decide (L3 < LZ))
      (
      chk (room (L0.length + ([LY] : List Int).length) 8) <|
      lt (L0 ++ ([LY] : List Int)) fun (L4 : (List Int)) =>
      qO.l3 K g1 L1 LY LZ k L4 (qh (L3 + (1 : Int))))
      (
      g1 L1 L0)
def qO.j2 (K : Nat) (g1 : Int → (List Int) → qN ((List Int) × Int)) (L3 : Int) (L0 : (List Int)) (L1 : Int) (LZ : Int) (LY : Int) : qN ((List Int) × Int) :=
  (zM.m K (decide (LY > (qh (L3 - (L0.length : Int))))) (3 : Int)).bind fun _ =>
  qO.l3 K (g1) L1 LZ LY K L0 (0 : Int)
def qO.l1 (K : Nat) (LY : qx) (L0 : Int) (L3 : qI) : Nat → Int → (List Int) → qN ((List Int) × Int)
  | 0, _, _ => .fail
  | k + 1, L4, LZ =>
    cond (decide ((LZ.length : Int) < L0))
      (
      (xI.m K (qx.mk (qH.mk (qr.mk L4) LY.Reader_.text_) LY.out_ LY.limit_) L3).bind fun (L5, L1) =>
      lt ((decide (L5 < (16 : Int)))) fun (Md : Bool) =>
      cond Md
        (
        qO.j2 K (qO.l1 K LY L0 L3 k) L0 LZ L1 L5 (1 : Int))
        (
        lt ((L5 == (16 : Int))) fun (Me : Bool) =>
        cond Me
          (
          (zM.m K ((LZ.length : Int) == (0 : Int)) (3 : Int)).bind fun _ =>
          chk (inb (qh ((LZ.length : Int) - (1 : Int))) LZ.length) <|
          (zP.m K (qx.mk (qH.mk (qr.mk L1) LY.Reader_.text_) LY.out_ LY.limit_) (2 : Int)).bind fun (Mg, Ma) =>
          lt ((rd LZ (qh ((LZ.length : Int) - (1 : Int))))) fun (L9 : Int) =>
          lt ((qh ((3 : Int) + Mg))) fun (L6 : Int) =>
          qO.j2 K (qO.l1 K LY L0 L3 k) L0 LZ Ma L9 L6)
          (
          lt ((L5 == (17 : Int))) fun (Mf : Bool) =>
          cond Mf
            (
            (zP.m K (qx.mk (qH.mk (qr.mk L1) LY.Reader_.text_) LY.out_ LY.limit_) (3 : Int)).bind fun (Mh, Mb) =>
            lt ((qh ((3 : Int) + Mh))) fun (L7 : Int) =>
            qO.j2 K (qO.l1 K LY L0 L3 k) L0 LZ Mb (0 : Int) L7)
            (
            (zP.m K (qx.mk (qH.mk (qr.mk L1) LY.Reader_.text_) LY.out_ LY.limit_) (7 : Int)).bind fun (Mi, Mc) =>
            lt ((qh ((11 : Int) + Mi))) fun (L8 : Int) =>
            qO.j2 K (qO.l1 K LY L0 L3 k) L0 LZ Mc (0 : Int) L8))))
      (
      .ok (LZ, L4))
def qO.m (K : Nat) (LY : qx) (LZ : Int) (L0 : qI) : qN ((List Int) × Int) :=
  qO.l1 K LY LZ L0 K LY.Reader_.place_.at_ ([] : List Int)
def zb.j2 (K : Nat) (L1 : qx) (LZ : Int) (L7 : Int) (L3 : Int) (L0 : (List Int)) : qN ((Option qI) × (Option qI) × Int) :=
  (zM.m K (L0 == ([0, 0, 0, 0, 0, 0, 0, 0, 0, 0, 0, 0, 0, 0, 0, 0, 0, 0, 0] : List Int)) (3 : Int)).bind fun _ =>
  (yg.m K L0).bind fun L8 =>
  DN L8 fun L9 =>
  (qO.m K (qx.mk (qH.mk (qr.mk L3) L1.Reader_.text_) L1.out_ L1.limit_) (qh (LZ + L7)) L9).bind fun (LY, L4) =>
  chk (inb (256 : Int) LY.length) <|
  (zM.m K ((rd LY (256 : Int)) == (0 : Int)) (3 : Int)).bind fun _ =>
  chk (subok (0 : Int) LZ LY.length) <|
  lt (sub LY (0 : Int) LZ) fun (L5 : (List Int)) =>
  chk (subok LZ (LY.length : Int) LY.length) <|
  lt (sub LY LZ (LY.length : Int)) fun (L6 : (List Int)) =>
  (yg.m K L5).bind fun Ma =>
  (yg.m K L6).bind fun Mb =>
  .ok (Ma, Mb, L4)
def zb.l1 (K : Nat) (LZ : qx) (L4 : Int) (L5 : Int) (LY : Int) : Nat → Int → (List Int) → Int → qN ((Option qI) × (Option qI) × Int)
  | 0, _, _, _ => .fail
  | k + 1, L1, L3, L0 =>
    cond (decide (L0 < (19 : Int)))
      (
      chk (inb L0 19) <|
      lt ((rd tab_inflate_order L0)) fun (L7 : Int) =>
      cond (decide (L0 < LY))
        (
        (zP.m K (qx.mk (qH.mk (qr.mk L1) LZ.Reader_.text_) LZ.out_ LZ.limit_) (3 : Int)).bind fun (L9, L6) =>
        chk (inb L7 19) <|
        lt (L3.set (Int.toNat L7) L9) fun (L8 : (List Int)) =>
        zb.l1 K LZ L4 L5 LY k L6 L8 (qh (L0 + (1 : Int))))
        (
        zb.l1 K LZ L4 L5 LY k L1 L3 (qh (L0 + (1 : Int)))))
      (
      zb.j2 K LZ L4 L5 L1 L3)
def zb.m (K : Nat) (LY : qx) : qN ((Option qI) × (Option qI) × Int) :=
  (zP.m K LY (5 : Int)).bind fun (L6, L1) =>
  (zP.m K (qx.mk (qH.mk (qr.mk L1) LY.Reader_.text_) LY.out_ LY.limit_) (5 : Int)).bind fun (L7, L3) =>
  lt ((qh (L6 + (257 : Int)))) fun (L0 : Int) =>
  lt ((qh (L7 + (1 : Int)))) fun (L5 : Int) =>
  (zP.m K (qx.mk (qH.mk (qr.mk L3) LY.Reader_.text_) LY.out_ LY.limit_) (4 : Int)).bind fun (L8, L4) =>
  lt ((qh (L8 + (4 : Int)))) fun (LZ : Int) =>
  (zM.m K ((decide (L0 > (286 : Int))) || (decide (L5 > (30 : Int)))) (3 : Int)).bind fun _ =>
  zb.l1 K LY L0 L5 LZ K L4 (List.replicate 19 (0 : Int)) (0 : Int)
def yi.m (K : Nat) (LY : qx) : qN (Bool × Int × (List Int)) :=
  (zP.m K LY (1 : Int)).bind fun (Mi, L7) =>
  lt ((Mi == (1 : Int))) fun (LZ : Bool) =>
  (zP.m K (qx.mk (qH.mk (qr.mk L7) LY.Reader_.text_) LY.out_ LY.limit_) (2 : Int)).bind fun (Ma, L0) =>
  lt ((Ma == (0 : Int))) fun (Mg : Bool) =>
  cond Mg
    (
    (x5.m K (qx.mk (qH.mk (qr.mk L0) LY.Reader_.text_) LY.out_ LY.limit_)).bind fun (L8, L9) =>
    .ok (LZ, L8, L9))
    (
    lt ((Ma == (1 : Int))) fun (Mh : Bool) =>
    cond Mh
      (
      (zq.m K).bind fun (Mj, Mk) =>
      DN Mj fun Ml =>
      DN Mk fun Mm =>
      (qU.m K (qx.mk (qH.mk (qr.mk L0) LY.Reader_.text_) LY.out_ LY.limit_) Ml Mm).bind fun (L1, L5) =>
      .ok (LZ, L1, L5))
      (
      lt ((Ma == (2 : Int))) fun (Mb : Bool) =>
      cond Mb
        (
        (zb.m K (qx.mk (qH.mk (qr.mk L0) LY.Reader_.text_) LY.out_ LY.limit_)).bind fun (Mc, Md, L3) =>
        DN Mc fun Me =>
        DN Md fun Mf =>
        (qU.m K (qx.mk (qH.mk (qr.mk L3) LY.Reader_.text_) LY.out_ LY.limit_) Me Mf).bind fun (L4, L6) =>
        .ok (LZ, L4, L6))
        (
        (zM.m K true (3 : Int)).bind fun _ =>
        .ok (LZ, L0, LY.out_))))
def vm.m (K : Nat) (LY : qH) : qN Unit :=
  .ok ()
def zC.h1 (K : Nat)  (LZ : Value) : qN ((List UInt8) × Int × Int) :=
  DN (Lb xC .i64 LZ) fun LY =>
  .ok (([] : List UInt8), (0 : Int), LY)
def zC.j4 (K : Nat) (L0 : List UInt8) (LY : Int) (LZ : (List Int)) : qN ((List UInt8) × Int × Int) :=
  (vm.m K (qH.mk (qr.mk LY) L0)).bind fun _ =>
  .ok ((LZ.map uh), (xX .i64 (qh (LY + (7 : Int))) (8 : Int)), (0 : Int))
def zC.l3 (K : Nat) (L5 : List UInt8) (LZ : Int) : Nat → Int → (List Int) → qN ((List UInt8) × Int × Int)
  | 0, _, _ => .fail
  | k + 1, L1, L3 =>
    (yi.m K (qx.mk (qH.mk (qr.mk L1) L5) L3 LZ)).bind fun (L4, LY, L0) =>
    cond (!L4)
      (
      zC.l3 K L5 LZ k LY L0)
      (
      zC.j4 K L5 LY L0)
def zC.j2 (K : Nat) (LZ : List UInt8) (LY : Int) : qN ((List UInt8) × Int × Int) :=
  (QM.m K LZ).bind fun _ =>
  zC.l3 K LZ LY K (0 : Int) ([] : List Int)
def zC.m (K : Nat) (LZ : List UInt8) (LY : Int) : qN ((List UInt8) × Int × Int) :=
  cond ((decide (LY < (0 : Int))) || (decide (LY > (1073741824 : Int))))
    (
    .ok (([] : List UInt8), (0 : Int), (1 : Int)))
    (
    (zC.j2 K LZ LY).catch (zC.h1 K))
def q8.j3 (K : Nat) (g1 : (List UInt8) → Int → Int → qN Int) (LY : List UInt8) (LZ : Int) (L1 : Int) (L4 : Int) : qN Int :=
  chk (subok LZ (LY.length : Int) LY.length) <|
  lt ((yW L1 (65521 : Int))) fun (L3 : Int) =>
  lt ((yW L4 (65521 : Int))) fun (L5 : Int) =>
  lt ((sub LY LZ (LY.length : Int))) fun (L0 : List UInt8) =>
  g1 L0 L3 L5
def q8.l2 (K : Nat) (g1 : (List UInt8) → Int → Int → qN Int) (LZ : List UInt8) (LY : Int) : Nat → Int → Int → Int → qN Int
  | 0, _, _, _ => .fail
  | k + 1, L1, L4, L0 =>
    cond (decide (L0 < LY))
      (
      chk (inb L0 LZ.length) <|
      lt ((wr .u32 (L1 + (wr .u32 ((rd LZ L0).toNat : Int))))) fun (L3 : Int) =>
      lt ((wr .u32 (L4 + L3))) fun (L5 : Int) =>
      q8.l2 K g1 LZ LY k L3 L5 (qh (L0 + (1 : Int))))
      (
      q8.j3 K (g1) LZ LY L1 L4)
def q8.j4 (K : Nat)  (LZ : Int) (L0 : Int) : qN Int :=
  lt ((Qo .u32 (z6 .u32 L0 (16 : Int)) LZ)) fun (LY : Int) =>
  .ok LY
def q8.l1 (K : Nat)  : Nat → (List UInt8) → Int → Int → qN Int
  | 0, _, _, _ => .fail
  | k + 1, LY, LZ, L0 =>
    cond (decide ((LY.length : Int) > (0 : Int)))
      (
      lt ((if (LY.length : Int) < (5000 : Int) then (LY.length : Int) else (5000 : Int))) fun (L1 : Int) =>
      q8.l2 K (q8.l1 K k) LY L1 K LZ L0 (0 : Int))
      (
      q8.j4 K LZ L0)
def q8.m (K : Nat) (LY : Int) (LZ : List UInt8) : qN Int :=
  lt ((yW (xD .u32 LY (65535 : Int)) (65521 : Int))) fun (L0 : Int) =>
  lt ((yW (z9 .u32 LY (16 : Int)) (65521 : Int))) fun (L1 : Int) =>
  q8.l1 K K LZ L0 L1
def jN.m (K : Nat) (LY : List UInt8) : qN Int :=
  (q8.m K (1 : Int) LY).bind fun LZ =>
  .ok LZ
def jr.m (K : Nat) (s3 : List UInt8) (limit4 : Int) : qN ((List UInt8) × Int × Int) :=
  cond ((decide (limit4 < (0 : Int))) || (decide (limit4 > (1073741824 : Int))))
    (
    .ok (([] : List UInt8), (0 : Int), (1 : Int)))
    (
    (Yb.m K s3).bind fun _ =>
    (zS.m K (yc.mk s3 (0 : Int)) (0 : Int) (2 : Int)).bind fun (L9, Ma) =>
    cond (Ma != (0 : Int))
      (
      .ok (([] : List UInt8), (0 : Int), Ma))
      (
      cond (((((xD .u64 (z9 .u64 L9 (8 : Int)) (15 : Int)) != (8 : Int)) || (decide ((z9 .u64 L9 (12 : Int)) > (7 : Int)))) || ((yW L9 (31 : Int)) != (0 : Int))) || ((xD .u64 L9 (32 : Int)) != (0 : Int)))
        (
        .ok (([] : List UInt8), (0 : Int), (3 : Int)))
        (
        chk (subok (2 : Int) (s3.length : Int) s3.length) <|
        (zC.m K (sub s3 (2 : Int) (s3.length : Int)) limit4).bind fun (LZ, L6, L0) =>
        cond (L0 != (0 : Int))
          (
          .ok (([] : List UInt8), (0 : Int), L0))
          (
          lt ((qh (L6 + (2 : Int)))) fun (LY : Int) =>
          (Yb.m K s3).bind fun _ =>
          (zS.m K (yc.mk s3 (0 : Int)) LY (4 : Int)).bind fun (L7, L1) =>
          lt ((L1 != (0 : Int))) fun (L3 : Bool) =>
          cond L3
            (
            .ok (([] : List UInt8), (0 : Int), L1))
            (
            (jN.m K LZ).bind fun L8 =>
            lt (((wr .u32 L7) != L8)) fun (L4 : Bool) =>
            cond L4
              (
              .ok (([] : List UInt8), (0 : Int), (4 : Int)))
              (
              lt ((qh (LY + (4 : Int)))) fun (L5 : Int) =>
              .ok (LZ, L5, (0 : Int))))))))
def yn.m (K : Nat) : qN Bool :=
  (jr.m K ([120, 156, 3, 0, 0, 0, 0, 1, 122] : List UInt8) (0 : Int)).bind fun (LZ, L0, L1) =>
  (jr.m K ([120, 156, 3, 0, 0, 0, 0, 2] : List UInt8) (0 : Int)).bind fun (L5, L6, L3) =>
  (jr.m K ([120, 157] : List UInt8) (0 : Int)).bind fun (L7, L8, L4) =>
  lt ((((((LZ == ([] : List UInt8)) && (L0 == (8 : Int))) && (L1 == (0 : Int))) && (L3 == (4 : Int))) && (L4 == (3 : Int)))) fun (LY : Bool) =>
  .ok LY
def zv.j3 (K : Nat)  (LY : Int) (LZ : Int) : qN Int :=
  chk (inb (wr .u8 LY) ([0, 1, 2, 2, 3, 3, 3, 3, 4, 4, 4, 4, 4, 4, 4, 4, 5, 5, 5, 5, 5, 5, 5, 5, 5, 5, 5, 5, 5, 5, 5, 5, 6, 6, 6, 6, 6, 6, 6, 6, 6, 6, 6, 6, 6, 6, 6, 6, 6, 6, 6, 6, 6, 6, 6, 6, 6, 6, 6, 6, 6, 6, 6, 6, 7, 7, 7, 7, 7, 7, 7, 7, 7, 7, 7, 7, 7, 7, 7, 7, 7, 7, 7, 7, 7, 7, 7, 7, 7, 7, 7, 7, 7, 7, 7, 7, 7, 7, 7, 7, 7, 7, 7, 7, 7, 7, 7, 7, 7, 7, 7, 7, 7, 7, 7, 7, 7, 7, 7, 7, 7, 7, 7, 7, 7, 7, 7, 7, 8, 8, 8, 8, 8, 8, 8, 8, 8, 8, 8, 8, 8, 8, 8, 8, 8, 8, 8, 8, 8, 8, 8, 8, 8, 8, 8, 8, 8, 8, 8, 8, 8, 8, 8, 8, 8, 8, 8, 8, 8, 8, 8, 8, 8, 8, 8, 8, 8, 8, 8, 8, 8, 8, 8, 8, 8, 8, 8, 8, 8, 8, 8, 8, 8, 8, 8, 8, 8, 8, 8, 8, 8, 8, 8, 8, 8, 8, 8, 8, 8, 8, 8, 8, 8, 8, 8, 8, 8, 8, 8, 8, 8, 8, 8, 8, 8, 8, 8, 8, 8, 8, 8, 8, 8, 8, 8, 8, 8, 8, 8, 8, 8, 8, 8, 8, 8, 8, 8, 8, 8, 8, 8, 8, 8, 8, 8, 8] : List UInt8).length) <|
  lt ((qh (LZ + (wr .i64 ((rd ([0, 1, 2, 2, 3, 3, 3, 3, 4, 4, 4, 4, 4, 4, 4, 4, 5, 5, 5, 5, 5, 5, 5, 5, 5, 5, 5, 5, 5, 5, 5, 5, 6, 6, 6, 6, 6, 6, 6, 6, 6, 6, 6, 6, 6, 6, 6, 6, 6, 6, 6, 6, 6, 6, 6, 6, 6, 6, 6, 6, 6, 6, 6, 6, 7, 7, 7, 7, 7, 7, 7, 7, 7, 7, 7, 7, 7, 7, 7, 7, 7, 7, 7, 7, 7, 7, 7, 7, 7, 7, 7, 7, 7, 7, 7, 7, 7, 7, 7, 7, 7, 7, 7, 7, 7, 7, 7, 7, 7, 7, 7, 7, 7, 7, 7, 7, 7, 7, 7, 7, 7, 7, 7, 7, 7, 7, 7, 7, 8, 8, 8, 8, 8, 8, 8, 8, 8, 8, 8, 8, 8, 8, 8, 8, 8, 8, 8, 8, 8, 8, 8, 8, 8, 8, 8, 8, 8, 8, 8, 8, 8, 8, 8, 8, 8, 8, 8, 8, 8, 8, 8, 8, 8, 8, 8, 8, 8, 8, 8, 8, 8, 8, 8, 8, 8, 8, 8, 8, 8, 8, 8, 8, 8, 8, 8, 8, 8, 8, 8, 8, 8, 8, 8, 8, 8, 8, 8, 8, 8, 8, 8, 8, 8, 8, 8, 8, 8, 8, 8, 8, 8, 8, 8, 8, 8, 8, 8, 8, 8, 8, 8, 8, 8, 8, 8, 8, 8, 8, 8, 8, 8, 8, 8, 8, 8, 8, 8, 8, 8, 8, 8, 8, 8, 8, 8, 8] : List UInt8) (wr .u8 LY)).toNat : Int))))) fun (L0 : Int) =>
  .ok L0
def zv.j2 (K : Nat)  (LZ : Int) (LY : Int) : qN Int :=
  cond (decide (LZ ≥ (256 : Int)))
    (
    lt ((z9 .u64 LZ (8 : Int))) fun (L1 : Int) =>
    lt ((qh (LY + (8 : Int)))) fun (L0 : Int) =>
    zv.j3 K L1 L0)
    (
    zv.j3 K LZ LY)
def zv.j1 (K : Nat)  (LZ : Int) (LY : Int) : qN Int :=
  cond (decide (LZ ≥ (65536 : Int)))
    (
    lt ((z9 .u64 LZ (16 : Int))) fun (L1 : Int) =>
    lt ((qh (LY + (16 : Int)))) fun (L0 : Int) =>
    zv.j2 K L1 L0)
    (
    zv.j2 K LZ LY)
def zv.m (K : Nat) (LY : Int) : qN Int :=
  cond (decide (LY ≥ (4294967296 : Int)))
    (
    lt ((z9 .u64 LY (32 : Int))) fun (LZ : Int) =>
    zv.j1 K LZ (32 : Int))
    (
    zv.j1 K LY (0 : Int))
def xl.l1 (K : Nat) (L1 : Int) (LY : Int) (L3 : (List Int)) : Nat → (List Int) → Int → qN ((List UInt8) × Int)
  | 0, _, _ => .fail
  | k + 1, L0, LZ =>
    cond (decide (LZ < (L3.length : Int)))
      (
      chk (decide (0 ≤ (qh ((8 : Int) * LZ)))) <|
      (x9.m K LZ LY).bind fun L4 =>
      chk (inb L4 L0.length) <|
      lt (L0.set (Int.toNat L4) (wr .u8 (z9 .u64 L1 (qh ((8 : Int) * LZ))))) fun (L5 : (List Int)) =>
      xl.l1 K L1 LY L3 k L5 (qh (LZ + (1 : Int))))
      (
      lt ((L0.map uh)) fun (L6 : List UInt8) =>
      .ok (L6, (0 : Int)))
def xl.m (K : Nat) (LZ : Int) (LY : Int) : qN ((List UInt8) × Int) :=
  (jZ.m K LY).bind fun L1 =>
  cond (!L1)
    (
    .ok (([] : List UInt8), (1 : Int)))
    (
    (zv.m K LZ).bind fun L3 =>
    cond (decide (L3 > (qh ((8 : Int) * LY))))
      (
      .ok (([] : List UInt8), (10 : Int)))
      (
      (yP.m K LY).bind fun _ =>
      chk (decide (0 ≤ LY) && room (Int.toNat LY) 1) <|
      lt (List.replicate (Int.toNat LY) (0 : Int)) fun (L0 : (List Int)) =>
      xl.l1 K LZ LY L0 K L0 (0 : Int)))
def yA.m (K : Nat) (LY : xn) (LZ : Int) : qN Unit :=
  chk (inb LZ LY.text_.length) <|
  chk (inb (qh (LZ + (1 : Int))) LY.text_.length) <|
  chk (inb (qh (LZ + (2 : Int))) LY.text_.length) <|
  .ok ()
def zA.j2 (K : Nat) (g1 : Int → qN Int) (LY : Int) (L0 : Bool) : qN Int :=
  cond L0
    (
    lt ((qh (LY + (1 : Int)))) fun (LZ : Int) =>
    g1 LZ)
    (
    .ok LY)
def zA.l1 (K : Nat) (LZ : xn) (L1 : Int) (L0 : Int) : Nat → Int → qN Int
  | 0, _ => .fail
  | k + 1, LY =>
    cond (decide (LY < (258 : Int)))
      (
      cond (decide ((qh (L0 + LY)) < (LZ.text_.length : Int)))
        (
        chk (inb (qh (L1 + LY)) LZ.text_.length) <|
        chk (inb (qh (L0 + LY)) LZ.text_.length) <|
        zA.j2 K (zA.l1 K LZ L1 L0 k) LY (((rd LZ.text_ (qh (L1 + LY))).toNat : Int) == ((rd LZ.text_ (qh (L0 + LY))).toNat : Int)))
        (
        zA.j2 K (zA.l1 K LZ L1 L0 k) LY false))
      (
      zA.j2 K (zA.l1 K LZ L1 L0 k) LY false)
def zA.m (K : Nat) (L0 : xn) (LY : Int) (LZ : Int) : qN Int :=
  zA.l1 K L0 LY LZ K (0 : Int)
def zQ.j2 (K : Nat)  (LZ : Int) (LY : Int) : qN (Int × Int) :=
  .ok (LZ, LY)
def zQ.l1 (K : Nat) (L4 : xn) (L3 : Int) (LZ : (List Int)) : Nat → Int → Int → Int → qN (Int × Int)
  | 0, _, _, _ => .fail
  | k + 1, L0, L1, LY =>
    cond ((decide (LY < (32 : Int))) && (decide (LY < (LZ.length : Int))))
      (
      chk (inb (qh ((qh ((LZ.length : Int) - (1 : Int))) - LY)) LZ.length) <|
      lt ((rd LZ (qh ((qh ((LZ.length : Int) - (1 : Int))) - LY)))) fun (L7 : Int) =>
      cond (decide ((qh (L3 - L7)) > (32768 : Int)))
        (
        zQ.j2 K L0 L1)
        (
        (zA.m K L4 L7 L3).bind fun L8 =>
        cond (decide (L8 > L0))
          (
          lt ((qh (LY + (1 : Int)))) fun (L5 : Int) =>
          zQ.l1 K L4 L3 LZ k L8 (qh (L3 - L7)) L5)
          (
          lt ((qh (LY + (1 : Int)))) fun (L6 : Int) =>
          zQ.l1 K L4 L3 LZ k L0 L1 L6)))
      (
      zQ.j2 K L0 L1)
def zQ.m (K : Nat) (LY : xn) (LZ : Int) : qN (Int × Int) :=
  cond (decide ((qh (LZ + (3 : Int))) > (LY.text_.length : Int)))
    (
    .ok ((0 : Int), (0 : Int)))
    (
    (yA.m K LY LZ).bind fun _ =>
    lt (vd LY.seen_ ([((rd LY.text_ LZ).toNat : Int), ((rd LY.text_ (qh (LZ + (1 : Int)))).toNat : Int), ((rd LY.text_ (qh (LZ + (2 : Int)))).toNat : Int)] : List Int)) fun (L0 : (List Int)) =>
    zQ.l1 K LY LZ L0 K (0 : Int) (0 : Int) (0 : Int))
def yC.m (K : Nat) (LY : xn) (LZ : Int) : qN (List ((List Int) × (List Int))) :=
  cond (decide ((qh (LZ + (3 : Int))) ≤ (LY.text_.length : Int)))
    (
    (yA.m K LY LZ).bind fun _ =>
    lt (vd LY.seen_ ([((rd LY.text_ LZ).toNat : Int), ((rd LY.text_ (qh (LZ + (1 : Int)))).toNat : Int), ((rd LY.text_ (qh (LZ + (2 : Int)))).toNat : Int)] : List Int)) fun (L0 : (List Int)) =>
    chk (room (L0.length + ([LZ] : List Int).length) 8) <|
    lt (L0 ++ ([LZ] : List Int)) fun (L1 : (List Int)) =>
    lt (QF LY.seen_ ([((rd LY.text_ LZ).toNat : Int), ((rd LY.text_ (qh (LZ + (1 : Int)))).toNat : Int), ((rd LY.text_ (qh (LZ + (2 : Int)))).toNat : Int)] : List Int) L1) fun (L3 : (List ((List Int) × (List Int)))) =>
    .ok L3)
    (
    .ok LY.seen_)
def zV.l3 (K : Nat) (g1 : (List ((List Int) × (List Int))) → (List qM) → Int → qN (List qM)) (L4 : List UInt8) (LY : Int) (L3 : (List qM)) : Nat → (List ((List Int) × (List Int))) → Int → Int → qN (List qM)
  | 0, _, _, _ => .fail
  | k + 1, LZ, L0, L5 =>
    cond (decide (L5 < (if LY > (1 : Int) then LY else (1 : Int))))
      (
      (yC.m K (xn.mk L4 LZ) L0).bind fun L1 =>
      lt ((qh (L0 + (1 : Int)))) fun (L6 : Int) =>
      zV.l3 K g1 L4 LY L3 k L1 L6 (qh (L5 + (1 : Int))))
      (
      g1 LZ L3 L0)
def zV.j2 (K : Nat) (g1 : (List ((List Int) × (List Int))) → (List qM) → Int → qN (List qM)) (L6 : List UInt8) (L3 : (List ((List Int) × (List Int)))) (L1 : (List qM)) (L5 : Int) (L0 : Int) (LY : Int) (LZ : Int) : qN (List qM) :=
  chk (room (L1.length + ([(qM.mk L0 LY LZ)] : List qM).length) 24) <|
  lt (L1 ++ ([(qM.mk L0 LY LZ)] : List qM)) fun (L4 : (List qM)) =>
  zV.l3 K (g1) L6 LY L4 K L3 L5 (0 : Int)
def zV.l1 (K : Nat) (LY : List UInt8) : Nat → (List ((List Int) × (List Int))) → (List qM) → Int → qN (List qM)
  | 0, _, _, _ => .fail
  | k + 1, LZ, L1, L0 =>
    cond (decide (L0 < (LY.length : Int)))
      (
      (zQ.m K (xn.mk LY LZ) L0).bind fun (L3, L4) =>
      cond (decide (L3 < (3 : Int)))
        (
        chk (inb L0 LY.length) <|
        zV.j2 K (zV.l1 K LY k) LY LZ L1 L0 ((rd LY L0).toNat : Int) (0 : Int) (0 : Int))
        (
        zV.j2 K (zV.l1 K LY k) LY LZ L1 L0 (0 : Int) L3 L4))
      (
      .ok L1)
def zV.m (K : Nat) (LY : List UInt8) : qN (List qM) :=
  zV.l1 K LY K ([] : List ((List Int) × (List Int))) ([] : List qM) (0 : Int)
def zU.j2 (K : Nat) (g1 : (List UInt8) → (List Int) → qN (List UInt8)) (L0 : List UInt8) (L1 : (List Int)) (LY : Int) (LZ : Int) : qN (List UInt8) :=
  chk (room (L1.length + ([LZ, (wr .u8 LY), (wr .u8 (z9 .i64 LY (8 : Int))), (Qn .u8 (wr .u8 LY)), (Qn .u8 (wr .u8 (z9 .i64 LY (8 : Int))))] : List Int).length) 1) <|
  lt (L1 ++ ([LZ, (wr .u8 LY), (wr .u8 (z9 .i64 LY (8 : Int))), (Qn .u8 (wr .u8 LY)), (Qn .u8 (wr .u8 (z9 .i64 LY (8 : Int))))] : List Int)) fun (L3 : (List Int)) =>
  chk (subok (0 : Int) LY L0.length) <|
  chk (room (L3.length + (sub L0 (0 : Int) LY).length) 1) <|
  lt (L3 ++ (sub L0 (0 : Int) LY).map Qg) fun (L4 : (List Int)) =>
  chk (subok LY (L0.length : Int) L0.length) <|
  lt ((sub L0 LY (L0.length : Int))) fun (L5 : List UInt8) =>
  cond (LZ == (1 : Int))
    (
    lt ((L4.map uh)) fun (L6 : List UInt8) =>
    .ok L6)
    (
    g1 L5 L4)
def zU.l1 (K : Nat)  : Nat → (List UInt8) → (List Int) → qN (List UInt8)
  | 0, _, _ => .fail
  | k + 1, LY, L0 =>
    lt ((if (LY.length : Int) < (65535 : Int) then (LY.length : Int) else (65535 : Int))) fun (LZ : Int) =>
    cond (LZ == (LY.length : Int))
      (
      zU.j2 K (zU.l1 K k) LY L0 LZ (1 : Int))
      (
      zU.j2 K (zU.l1 K k) LY L0 LZ (0 : Int))
def zU.m (K : Nat) (LY : List UInt8) : qN (List UInt8) :=
  zU.l1 K K LY ([] : List Int)
def vz.m (K : Nat) (LY : qM) : qN Bool :=
  cond (LY.Dist_ == (0 : Int))
    (
    lt ((LY.Len_ == (0 : Int))) fun (LZ : Bool) =>
    .ok LZ)
    (
    lt ((((((decide (LY.Dist_ > (0 : Int))) && (decide (LY.Dist_ ≤ (32768 : Int)))) && (decide (LY.Len_ ≥ (3 : Int)))) && (decide (LY.Len_ ≤ (258 : Int)))) && (LY.Lit_ == (0 : Int)))) fun (L0 : Bool) =>
    .ok L0)
def x8.l1 (K : Nat) (LY : Int) : Nat → Int → Int → qN Int
  | 0, _, _ => .fail
  | k + 1, L0, LZ =>
    chk (decide (0 ≤ LY)) <|
    cond (decide (L0 ≥ (z6 .i64 (2 : Int) LY)))
      (
      lt ((z9 .i64 L0 (1 : Int))) fun (L3 : Int) =>
      lt ((qh (LZ + (1 : Int)))) fun (L1 : Int) =>
      x8.l1 K LY k L3 L1)
      (
      .ok LZ)
def x8.m (K : Nat) (LZ : Int) (LY : Int) : qN Int :=
  x8.l1 K LY K LZ (0 : Int)
def yN.m (K : Nat) (LY : Int) : qN Int :=
  lt ((LY == (258 : Int))) fun (LZ : Bool) =>
  cond LZ
    (
    .ok (8 : Int))
    (
    lt ((decide (LY ≥ (115 : Int)))) fun (L0 : Bool) =>
    cond L0
      (
      (x8.m K (qh (LY - (3 : Int))) (2 : Int)).bind fun L4 =>
      lt ((qh ((8 : Int) + L4))) fun (L1 : Int) =>
      .ok L1)
      (
      (x8.m K (qh (LY - (3 : Int))) (2 : Int)).bind fun L5 =>
      lt ((qh ((7 : Int) + L5))) fun (L3 : Int) =>
      .ok L3))
def xW.l1 (K : Nat) (LY : List qM) : Nat → Int → Int → qN (Int × Int)
  | 0, _, _ => .fail
  | k + 1, L0, LZ =>
    cond (decide (LZ < (LY.length : Int)))
      (
      chk (inb LZ LY.length) <|
      (vz.m K (qM.mk ((rd LY LZ).Lit_) ((rd LY LZ).Len_) ((rd LY LZ).Dist_))).bind fun L8 =>
      lt ((!L8)) fun (L5 : Bool) =>
      cond L5
        (
        .ok ((0 : Int), (1 : Int)))
        (
        lt ((((rd LY LZ).Dist_ == (0 : Int)) && (decide ((rd LY LZ).Lit_ < (144 : Int))))) fun (L6 : Bool) =>
        cond L6
          (
          lt ((qh (L0 + (8 : Int)))) fun (L1 : Int) =>
          xW.l1 K LY k L1 (qh (LZ + (1 : Int))))
          (
          lt (((rd LY LZ).Dist_ == (0 : Int))) fun (L7 : Bool) =>
          cond L7
            (
            lt ((qh (L0 + (9 : Int)))) fun (L3 : Int) =>
            xW.l1 K LY k L3 (qh (LZ + (1 : Int))))
            (
            (yN.m K ((rd LY LZ).Len_)).bind fun L9 =>
            (x8.m K (qh ((rd LY LZ).Dist_ - (1 : Int))) (1 : Int)).bind fun Ma =>
            lt ((qh (L0 + (qh ((qh (L9 + (5 : Int))) + Ma))))) fun (L4 : Int) =>
            xW.l1 K LY k L4 (qh (LZ + (1 : Int)))))))
      (
      .ok (L0, (0 : Int)))
def xW.m (K : Nat) (LY : List qM) : qN (Int × Int) :=
  xW.l1 K LY K (7 : Int) (0 : Int)
def je.m (K : Nat) (LY : List qM) : qN Bool :=
  (xW.m K LY).bind fun (L1, L0) =>
  lt ((L0 == (0 : Int))) fun (LZ : Bool) =>
  .ok LZ
def zK.j2 (K : Nat)  (LY : (List Int)) : qN (List Int) :=
  .ok LY
def zK.l1 (K : Nat) (L1 : List Int) : Nat → (List Int) → Int → Int → qN (List Int)
  | 0, _, _, _ => .fail
  | k + 1, LZ, L3, LY =>
    cond (decide (LY ≤ (15 : Int)))
      (
      chk (inb (qh (LY - (1 : Int))) 16) <|
      lt ((z6 .i64 (qh (L3 + (rd L1 (qh (LY - (1 : Int)))))) (1 : Int))) fun (L0 : Int) =>
      chk (inb LY 16) <|
      lt (LZ.set (Int.toNat LY) L0) fun (L5 : (List Int)) =>
      lt ((qh (LY + (1 : Int)))) fun (L4 : Int) =>
      zK.l1 K L1 k L5 L0 L4)
      (
      zK.j2 K LZ)
def zK.m (K : Nat) (LY : List Int) : qN (List Int) :=
  zK.l1 K LY K (List.replicate 16 (0 : Int)) (0 : Int) (1 : Int)
def x6.l1 (K : Nat) (LY : List Int) : Nat → (List Int) → (List Int) → Int → qN ((List Int) × Int)
  | 0, _, _, _ => .fail
  | k + 1, LZ, L0, L3 =>
    cond (decide (L3 < (LY.length : Int)))
      (
      chk (inb L3 LY.length) <|
      lt ((rd LY L3)) fun (L1 : Int) =>
      cond (decide (L1 > (0 : Int)))
        (
        chk (inb L1 16) <|
        chk (inb L3 L0.length) <|
        lt (L0.set (Int.toNat L3) (rd LZ L1)) fun (L4 : (List Int)) =>
        lt (LZ.set (Int.toNat L1) (qh ((rd LZ L1) + (1 : Int)))) fun (L5 : (List Int)) =>
        x6.l1 K LY k L5 L4 (qh (L3 + (1 : Int))))
        (
        x6.l1 K LY k LZ L0 (qh (L3 + (1 : Int)))))
      (
      .ok (L0, (0 : Int)))
def x6.m (K : Nat) (LY : List Int) : qN ((List Int) × Int) :=
  (xr.m K LY).bind fun LZ =>
  cond (LZ != (0 : Int))
    (
    .ok (([] : List Int), LZ))
    (
    (xh.m K LY).bind fun (L1, L4) =>
    (zK.m K L1).bind fun L3 =>
    chk (decide (0 ≤ (LY.length : Int)) && room (Int.toNat (LY.length : Int)) 8) <|
    lt (List.replicate (Int.toNat (LY.length : Int)) (0 : Int)) fun (L0 : (List Int)) =>
    x6.l1 K LY K L3 L0 (0 : Int))
def yd.m (K : Nat) (LY : List Int) : qN (List Int) :=
  (x6.m K LY).bind fun (LZ, L0) =>
  .ok LZ
def qY.j4 (K : Nat) (L0 : (List Int)) (L1 : (List Int)) : qN ((List Int) × (List Int) × (List Int) × (List Int)) :=
  (yd.m K L0).bind fun LY =>
  (yd.m K L1).bind fun LZ =>
  .ok (L0, LY, L1, LZ)
def qY.l3 (K : Nat) (L0 : (List Int)) (L1 : (List Int)) : Nat → (List Int) → Int → qN ((List Int) × (List Int) × (List Int) × (List Int))
  | 0, _, _ => .fail
  | k + 1, LZ, LY =>
    cond (decide (LY < (L1.length : Int)))
      (
      chk (inb LY LZ.length) <|
      lt (LZ.set (Int.toNat LY) (5 : Int)) fun (L3 : (List Int)) =>
      qY.l3 K L0 L1 k L3 (qh (LY + (1 : Int))))
      (
      qY.j4 K L0 LZ)
def qY.j2 (K : Nat)  (LZ : (List Int)) : qN ((List Int) × (List Int) × (List Int) × (List Int)) :=
  chk (decide (0 ≤ (32 : Int)) && room (Int.toNat (32 : Int)) 8) <|
  lt (List.replicate (Int.toNat (32 : Int)) (0 : Int)) fun (LY : (List Int)) =>
  qY.l3 K LZ LY K LY (0 : Int)
def qY.l1 (K : Nat) (L0 : (List Int)) : Nat → (List Int) → Int → qN ((List Int) × (List Int) × (List Int) × (List Int))
  | 0, _, _ => .fail
  | k + 1, LZ, LY =>
    cond (decide (LY < (L0.length : Int)))
      (
      lt (((decide (LY < (144 : Int))) || (decide (LY ≥ (280 : Int))))) fun (L5 : Bool) =>
      cond L5
        (
        chk (inb LY LZ.length) <|
        lt (LZ.set (Int.toNat LY) (8 : Int)) fun (L1 : (List Int)) =>
        qY.l1 K L0 k L1 (qh (LY + (1 : Int))))
        (
        lt ((decide (LY < (256 : Int)))) fun (L6 : Bool) =>
        cond L6
          (
          chk (inb LY LZ.length) <|
          lt (LZ.set (Int.toNat LY) (9 : Int)) fun (L3 : (List Int)) =>
          qY.l1 K L0 k L3 (qh (LY + (1 : Int))))
          (
          chk (inb LY LZ.length) <|
          lt (LZ.set (Int.toNat LY) (7 : Int)) fun (L4 : (List Int)) =>
          qY.l1 K L0 k L4 (qh (LY + (1 : Int))))))
      (
      qY.j2 K LZ)
def qY.m (K : Nat) : qN ((List Int) × (List Int) × (List Int) × (List Int)) :=
  chk (decide (0 ≤ (288 : Int)) && room (Int.toNat (288 : Int)) 8) <|
  lt (List.replicate (Int.toNat (288 : Int)) (0 : Int)) fun (LY : (List Int)) =>
  qY.l1 K LY K LY (0 : Int)
def qn.j2 (K : Nat) (g1 : Int → (List Int) → Int → Int → qN (Int × Int × (List Int))) (LY : Int) (L3 : Int) (L1 : Int) (L0 : (List Int)) : qN (Int × Int × (List Int)) :=
  lt ((if L1 < (qh ((8 : Int) - (xD .i64 LY (7 : Int)))) then L1 else (qh ((8 : Int) - (xD .i64 LY (7 : Int)))))) fun (LZ : Int) =>
  chk (inb (xX .i64 LY (8 : Int)) L0.length) <|
  chk (decide (0 ≤ LZ)) <|
  chk (decide (0 ≤ (xD .i64 LY (7 : Int)))) <|
  lt (L0.set (Int.toNat (xX .i64 LY (8 : Int))) (Qo .u8 (rd L0 (xX .i64 LY (8 : Int))) (z6 .u8 (wr .u8 (xD .u32 L3 (wr .u32 ((z6 .u32 (1 : Int) LZ) - (1 : Int))))) (xD .i64 LY (7 : Int))))) fun (L5 : (List Int)) =>
  lt ((z9 .u32 L3 LZ)) fun (L6 : Int) =>
  lt ((qh (L1 - LZ))) fun (L4 : Int) =>
  g1 (qh (LY + LZ)) L5 L6 L4
def qn.l1 (K : Nat)  : Nat → Int → (List Int) → Int → Int → qN (Int × Int × (List Int))
  | 0, _, _, _, _ => .fail
  | k + 1, LZ, LY, L1, L0 =>
    cond (decide (L0 > (0 : Int)))
      (
      cond ((xD .i64 LZ (7 : Int)) == (0 : Int))
        (
        chk (room (LY.length + ([(0 : Int)] : List Int).length) 1) <|
        lt (LY ++ ([(0 : Int)] : List Int)) fun (L3 : (List Int)) =>
        qn.j2 K (qn.l1 K k) LZ L1 L0 L3)
        (
        qn.j2 K (qn.l1 K k) LZ L1 L0 LY))
      (
      .ok ((0 : Int), LZ, LY))
def qn.m (K : Nat) (LZ : qp) (L0 : Int) (LY : Int) : qN (Int × Int × (List Int)) :=
  chk (imp false ((decide (LY < (0 : Int))) || (decide (LY > (32 : Int)))) (decide (0 ≤ LY))) <|
  cond (((decide (LY < (0 : Int))) || (decide (LY > (32 : Int)))) || (decide ((z9 .u64 (wr .u64 L0) LY) > (0 : Int))))
    (
    .ok ((1 : Int), LZ.Writer_.place_.at_, LZ.Writer_.bytes_))
    (
    qn.l1 K K LZ.Writer_.place_.at_ LZ.Writer_.bytes_ L0 LY)
def zL.l1 (K : Nat) (LY : qp) (L4 : Int) : Nat → Int → (List Int) → Int → qN (Int × (List Int))
  | 0, _, _, _ => .fail
  | k + 1, L0, LZ, L1 =>
    cond (decide (L1 ≥ (0 : Int)))
      (
      chk (inb L4 LY.literals_.codes_.length) <|
      chk (decide (0 ≤ L1)) <|
      (qn.m K (qp.mk (qR.mk (qr.mk L0) LZ) LY.literals_ LY.distances_) (wr .u32 (xD .i64 (z9 .i64 (rd LY.literals_.codes_ L4) L1) (1 : Int))) (1 : Int)).bind fun (L7, L5, L3) =>
      lt ((qh (L1 - (1 : Int)))) fun (L6 : Int) =>
      zL.l1 K LY L4 k L5 L3 L6)
      (
      .ok (L0, LZ))
def zL.m (K : Nat) (LY : qp) (L1 : qv) (LZ : Int) : qN (Int × (List Int)) :=
  chk (inb LZ LY.literals_.lengths_.length) <|
  lt ((qh ((rd LY.literals_.lengths_ LZ) - (1 : Int)))) fun (L0 : Int) =>
  zL.l1 K LY LZ K LY.Writer_.place_.at_ LY.Writer_.bytes_ L0
def z4.j2 (K : Nat) (L1 : Int) (LZ : Int) (LY : Int) (L0 : Int) : qN (Int × Int × Int) :=
  chk (decide (0 ≤ LZ)) <|
  chk (decide (0 ≤ LY)) <|
  .ok ((qh ((z6 .i64 LY LZ) + L0)), LY, (wr .u32 (qh (L1 - (z6 .i64 L0 LY)))))
def z4.l1 (K : Nat) (L1 : Int) (LY : Int) : Nat → Int → Int → qN (Int × Int × Int)
  | 0, _, _ => .fail
  | k + 1, L0, LZ =>
    chk (decide (0 ≤ LY)) <|
    cond (decide (LZ ≥ (z6 .i64 (2 : Int) LY)))
      (
      lt ((z9 .i64 LZ (1 : Int))) fun (L3 : Int) =>
      lt ((qh (L0 + (1 : Int)))) fun (L4 : Int) =>
      z4.l1 K L1 LY k L4 L3)
      (
      z4.j2 K L1 LY L0 LZ)
def z4.m (K : Nat) (LY : Int) (LZ : Int) : qN (Int × Int × Int) :=
  z4.l1 K LY LZ K (0 : Int) LY
def yL.m (K : Nat) (L1 : Int) : qN (Int × Int × Int) :=
  cond (L1 == (258 : Int))
    (
    .ok ((285 : Int), (0 : Int), (0 : Int)))
    (
    (z4.m K (qh (L1 - (3 : Int))) (2 : Int)).bind fun (LY, LZ, L0) =>
    .ok ((qh (LY + (257 : Int))), LZ, L0))
def ye.m (K : Nat) (LY : qp) (L5 : qv) (L1 : xT) : qN (Int × (List Int)) :=
  (zL.m K LY LY.literals_ L1.symbol_).bind fun (L3, LZ) =>
  (qn.m K (qp.mk (qR.mk (qr.mk L3) LZ) LY.literals_ LY.distances_) L1.more_ L1.bits_).bind fun (L6, L4, L0) =>
  .ok (L4, L0)
def yx.m (K : Nat) (L1 : Int) : qN (Int × Int × Int) :=
  (z4.m K (qh (L1 - (1 : Int))) (1 : Int)).bind fun (LY, LZ, L0) =>
  .ok (LY, LZ, L0)
def z1.l1 (K : Nat) (LY : qp) (L4 : Int) : Nat → Int → (List Int) → Int → qN (Int × (List Int))
  | 0, _, _, _ => .fail
  | k + 1, L0, LZ, L1 =>
    cond (decide (L1 ≥ (0 : Int)))
      (
      chk (inb L4 LY.distances_.codes_.length) <|
      chk (decide (0 ≤ L1)) <|
      (qn.m K (qp.mk (qR.mk (qr.mk L0) LZ) LY.literals_ LY.distances_) (wr .u32 (xD .i64 (z9 .i64 (rd LY.distances_.codes_ L4) L1) (1 : Int))) (1 : Int)).bind fun (L7, L5, L3) =>
      lt ((qh (L1 - (1 : Int)))) fun (L6 : Int) =>
      z1.l1 K LY L4 k L5 L3 L6)
      (
      .ok (L0, LZ))
def z1.m (K : Nat) (LY : qp) (L1 : qv) (LZ : Int) : qN (Int × (List Int)) :=
  chk (inb LZ LY.distances_.lengths_.length) <|
  lt ((qh ((rd LY.distances_.lengths_ LZ) - (1 : Int)))) fun (L0 : Int) =>
  z1.l1 K LY LZ K LY.Writer_.place_.at_ LY.Writer_.bytes_ L0
def yf.m (K : Nat) (LY : qp) (L5 : qv) (L1 : xT) : qN (Int × (List Int)) :=
  (z1.m K LY LY.distances_ L1.symbol_).bind fun (L3, LZ) =>
  (qn.m K (qp.mk (qR.mk (qr.mk L3) LZ) LY.literals_ LY.distances_) L1.more_ L1.bits_).bind fun (L6, L4, L0) =>
  .ok (L4, L0)
def zi.j2 (K : Nat) (LY : qp) (L1 : Int) (LZ : (List Int)) : qN (Int × (List Int)) :=
  (zL.m K (qp.mk (qR.mk (qr.mk L1) LZ) LY.literals_ LY.distances_) LY.literals_ (256 : Int)).bind fun (L3, L0) =>
  .ok (L3, L0)
def zi.l1 (K : Nat) (LY : qp) (LZ : List qM) : Nat → Int → (List Int) → Int → qN (Int × (List Int))
  | 0, _, _, _ => .fail
  | k + 1, L3, L0, L1 =>
    cond (decide (L1 < (LZ.length : Int)))
      (
      chk (inb L1 LZ.length) <|
      cond ((rd LZ L1).Dist_ == (0 : Int))
        (
        (zL.m K (qp.mk (qR.mk (qr.mk L3) L0) LY.literals_ LY.distances_) LY.literals_ (wr .i64 (rd LZ L1).Lit_)).bind fun (Md, L6) =>
        zi.l1 K LY LZ k Md L6 (qh (L1 + (1 : Int))))
        (
        (yL.m K ((rd LZ L1).Len_)).bind fun (L4, L9, Mb) =>
        (ye.m K (qp.mk (qR.mk (qr.mk L3) L0) LY.literals_ LY.distances_) LY.literals_ (xT.mk L4 L9 Mb)).bind fun (Me, L7) =>
        (yx.m K ((rd LZ L1).Dist_)).bind fun (L5, Ma, Mc) =>
        (yf.m K (qp.mk (qR.mk (qr.mk Me) L7) LY.literals_ LY.distances_) LY.distances_ (xT.mk L5 Ma Mc)).bind fun (Mf, L8) =>
        zi.l1 K LY LZ k Mf L8 (qh (L1 + (1 : Int)))))
      (
      zi.j2 K LY L3 L0)
def zi.m (K : Nat) (LY : qp) (LZ : List qM) : qN (Int × (List Int)) :=
  zi.l1 K LY LZ K LY.Writer_.place_.at_ LY.Writer_.bytes_ (0 : Int)
def zX.m (K : Nat) (LY : qp) : qN (List UInt8) :=
  lt ((LY.Writer_.bytes_.map uh)) fun (LZ : List UInt8) =>
  .ok LZ
def jm.m (K : Nat) (L5 : List qM) : qN ((List UInt8) × Int) :=
  (je.m K L5).bind fun L8 =>
  cond (!L8)
    (
    .ok (([] : List UInt8), (1 : Int)))
    (
    (qY.m K).bind fun (LY, L0, LZ, L1) =>
    (qn.m K (qp.mk (qR.mk (qr.mk (0 : Int)) ([] : List Int)) (qv.mk LY L0) (qv.mk LZ L1)) (3 : Int) (3 : Int)).bind fun (Ma, L6, L3) =>
    (zi.m K (qp.mk (qR.mk (qr.mk L6) L3) (qv.mk LY L0) (qv.mk LZ L1)) L5).bind fun (L7, L4) =>
    (zX.m K (qp.mk (qR.mk (qr.mk L7) L4) (qv.mk LY L0) (qv.mk LZ L1))).bind fun L9 =>
    .ok (L9, (0 : Int)))
def jA.m (K : Nat) (LY : Int) : qN Bool :=
  lt (((decide (LY < (0 : Int))) || (decide (LY > (1099511627776 : Int))))) fun (LZ : Bool) =>
  .ok LZ
def zB.l1 (K : Nat) (LZ : List Int) : Nat → Int → qN Int
  | 0, _ => .fail
  | k + 1, LY =>
    cond (decide (LY < (LZ.length : Int)))
      (
      chk (inb LY LZ.length) <|
      (jA.m K (rd LZ LY)).bind fun L0 =>
      cond L0
        (
        .ok LY)
        (
        zB.l1 K LZ k (qh (LY + (1 : Int)))))
      (
      .ok (-1 : Int))
def zB.m (K : Nat) (LY : List Int) : qN Int :=
  zB.l1 K LY K (0 : Int)
def xB.m (K : Nat) (LY : List Int) : qN Bool :=
  (zB.m K LY).bind fun L0 =>
  lt ((decide (L0 ≥ (0 : Int)))) fun (LZ : Bool) =>
  .ok LZ
def y6.m (K : Nat) (LY : Int) : qN Bool :=
  lt ((LY != LY)) fun (LZ : Bool) =>
  .ok LZ
def yK.m (K : Nat) (LY : Int) (LZ : Int) : qN Int :=
  (y6.m K LY).bind fun L1 =>
  (y6.m K LZ).bind fun L0 =>
  cond L1
    (
    cond L0
      (
      .ok (0 : Int))
      (
      .ok (-1 : Int)))
    (
    cond L0
      (
      .ok (1 : Int))
      (
      cond (decide (LY < LZ))
        (
        .ok (-1 : Int))
        (
        cond (decide (LY > LZ))
          (
          .ok (1 : Int))
          (
          .ok (0 : Int)))))
def xP.m (K : Nat) (LY : qb) (L0 : qb) : qN Int :=
  (yK.m K LY.often_ L0.often_).bind fun LZ =>
  .ok LZ
def qc.j3 (K : Nat) (g1 : (List qb) → Int → qN (List qb)) (g2 : (List qb) → Int → qN (List qb)) (L3 : Int) (LY : (List qb)) (LZ : Int) (L6 : Bool) : qN (List qb) :=
  cond L6
    (
    chk (inb (qh (LZ - (1 : Int))) LY.length) <|
    chk (inb LZ LY.length) <|
    lt (LY.set (Int.toNat LZ) (qb.mk ((rd LY (qh (LZ - (1 : Int)))).often_) ((rd LY (qh (LZ - (1 : Int)))).symbols_))) fun (L0 : (List qb)) =>
    chk (inb (qh (LZ - (1 : Int))) L0.length) <|
    lt (L0.set (Int.toNat (qh (LZ - (1 : Int)))) (qb.mk ((rd LY LZ).often_) ((rd LY LZ).symbols_))) fun (L1 : (List qb)) =>
    lt ((qh (LZ - (1 : Int)))) fun (L5 : Int) =>
    g2 L1 L5)
    (
    lt ((qh (L3 + (1 : Int)))) fun (L4 : Int) =>
    g1 LY L4)
def qc.l2 (K : Nat) (g1 : (List qb) → Int → qN (List qb)) (L0 : Int) (L1 : Int) : Nat → (List qb) → Int → qN (List qb)
  | 0, _, _ => .fail
  | k + 1, LY, LZ =>
    cond (decide (LZ > L0))
      (
      chk (inb LZ LY.length) <|
      chk (inb (qh (LZ - (1 : Int))) LY.length) <|
      (xP.m K (qb.mk ((rd LY LZ).often_) ((rd LY LZ).symbols_)) (qb.mk ((rd LY (qh (LZ - (1 : Int)))).often_) ((rd LY (qh (LZ - (1 : Int)))).symbols_))).bind fun L3 =>
      qc.j3 K (g1) (qc.l2 K g1 L0 L1 k) L1 LY LZ (decide (L3 < (0 : Int))))
      (
      qc.j3 K (g1) (qc.l2 K g1 L0 L1 k) L1 LY LZ false)
def qc.l1 (K : Nat) (LZ : Int) (L0 : Int) : Nat → (List qb) → Int → qN (List qb)
  | 0, _, _ => .fail
  | k + 1, LY, L1 =>
    cond (decide (L1 < L0))
      (
      qc.l2 K (qc.l1 K LZ L0 k) LZ L1 K LY L1)
      (
      .ok LY)
def qc.m (K : Nat) (LZ : List qb) (LY : Int) (L0 : Int) : qN (List qb) :=
  lt ((qh (LY + (1 : Int)))) fun (L1 : Int) =>
  qc.l1 K LY L0 K LZ L1
def qJ.l1 (K : Nat) (L1 : Int) (L0 : Int) (L3 : Int) : Nat → (List qb) → Int → qN (List qb)
  | 0, _, _ => .fail
  | k + 1, LY, LZ =>
    cond (decide (LZ < L3))
      (
      chk (inb (qh (L0 + LZ)) LY.length) <|
      chk (inb (qh (L1 + LZ)) LY.length) <|
      lt (LY.set (Int.toNat (qh (L1 + LZ))) (qb.mk ((rd LY (qh (L0 + LZ))).often_) ((rd LY (qh (L0 + LZ))).symbols_))) fun (L4 : (List qb)) =>
      chk (inb (qh (L0 + LZ)) L4.length) <|
      lt (L4.set (Int.toNat (qh (L0 + LZ))) (qb.mk ((rd LY (qh (L1 + LZ))).often_) ((rd LY (qh (L1 + LZ))).symbols_))) fun (L5 : (List qb)) =>
      lt ((qh (LZ + (1 : Int)))) fun (L6 : Int) =>
      qJ.l1 K L1 L0 L3 k L5 L6)
      (
      .ok LY)
def qJ.m (K : Nat) (LY : List qb) (LZ : Int) (L0 : Int) (L1 : Int) : qN (List qb) :=
  qJ.l1 K LZ L0 L1 K LY (0 : Int)
def qw.j2 (K : Nat) (L1 : Int) (LY : (List qb)) (L0 : Int) : qN (List qb) :=
  (qJ.m K LY (qh (L1 - L0)) L1 L0).bind fun LZ =>
  .ok LZ
def qw.l1 (K : Nat) (L1 : Int) : Nat → (List qb) → Int → Int → qN (List qb)
  | 0, _, _, _ => .fail
  | k + 1, LZ, LY, L0 =>
    cond (LY != L0)
      (
      cond (decide (LY > L0))
        (
        (qJ.m K LZ (qh (L1 - LY)) L1 L0).bind fun L3 =>
        lt ((qh (LY - L0))) fun (L5 : Int) =>
        qw.l1 K L1 k L3 L5 L0)
        (
        (qJ.m K LZ (qh (L1 - LY)) (qh ((qh (L1 + L0)) - LY)) LY).bind fun L4 =>
        lt ((qh (L0 - LY))) fun (L6 : Int) =>
        qw.l1 K L1 k L4 LY L6))
      (
      qw.j2 K L1 LZ LY)
def qw.m (K : Nat) (LY : List qb) (L0 : Int) (LZ : Int) (L1 : Int) : qN (List qb) :=
  lt ((qh (LZ - L0))) fun (L3 : Int) =>
  lt ((qh (L1 - LZ))) fun (L4 : Int) =>
  qw.l1 K LZ K LY L3 L4
def qa.l3 (K : Nat) (rc : (List qb) → Int → Int → Int → qN (List qb)) (L1 : Int) : Nat → (List qb) → Int → qN (List qb)
  | 0, _, _ => .fail
  | k + 1, LY, LZ =>
    cond (decide (LZ < (qh (L1 - (1 : Int)))))
      (
      chk (inb (qh (LZ + (1 : Int))) LY.length) <|
      chk (inb LZ LY.length) <|
      lt (LY.set (Int.toNat LZ) (qb.mk ((rd LY (qh (LZ + (1 : Int)))).often_) ((rd LY (qh (LZ + (1 : Int)))).symbols_))) fun (L0 : (List qb)) =>
      chk (inb (qh (LZ + (1 : Int))) L0.length) <|
      lt (L0.set (Int.toNat (qh (LZ + (1 : Int)))) (qb.mk ((rd LY LZ).often_) ((rd LY LZ).symbols_))) fun (L4 : (List qb)) =>
      lt ((qh (LZ + (1 : Int)))) fun (L3 : Int) =>
      qa.l3 K rc L1 k L4 L3)
      (
      .ok LY)
def qa.j2 (K : Nat) (rc : (List qb) → Int → Int → Int → qN (List qb)) (LY : List qb) (LZ : Int) (L0 : Int) : qN (List qb) :=
  qa.l3 K rc L0 K LY LZ
def qa.l1 (K : Nat) (rc : (List qb) → Int → Int → Int → qN (List qb)) (LY : List qb) (LZ : Int) : Nat → Int → Int → qN (List qb)
  | 0, _, _ => .fail
  | k + 1, L1, L3 =>
    cond (decide (L1 < L3))
      (
      lt ((wr .i64 (z9 .u64 (wr .u64 (qh (L1 + L3))) (1 : Int)))) fun (L0 : Int) =>
      chk (inb L0 LY.length) <|
      chk (inb LZ LY.length) <|
      (xP.m K (qb.mk ((rd LY L0).often_) ((rd LY L0).symbols_)) (qb.mk ((rd LY LZ).often_) ((rd LY LZ).symbols_))).bind fun L5 =>
      cond (decide (L5 < (0 : Int)))
        (
        lt ((qh (L0 + (1 : Int)))) fun (L4 : Int) =>
        qa.l1 K rc LY LZ k L4 L3)
        (
        qa.l1 K rc LY LZ k L1 L0))
      (
      qa.j2 K rc LY LZ L1)
def qa.l7 (K : Nat) (rc : (List qb) → Int → Int → Int → qN (List qb)) (L1 : Int) : Nat → (List qb) → Int → qN (List qb)
  | 0, _, _ => .fail
  | k + 1, LY, LZ =>
    cond (decide (LZ > L1))
      (
      chk (inb (qh (LZ - (1 : Int))) LY.length) <|
      chk (inb LZ LY.length) <|
      lt (LY.set (Int.toNat LZ) (qb.mk ((rd LY (qh (LZ - (1 : Int)))).often_) ((rd LY (qh (LZ - (1 : Int)))).symbols_))) fun (L0 : (List qb)) =>
      chk (inb (qh (LZ - (1 : Int))) L0.length) <|
      lt (L0.set (Int.toNat (qh (LZ - (1 : Int)))) (qb.mk ((rd LY LZ).often_) ((rd LY LZ).symbols_))) fun (L4 : (List qb)) =>
      lt ((qh (LZ - (1 : Int)))) fun (L3 : Int) =>
      qa.l7 K rc L1 k L4 L3)
      (
      .ok LY)
def qa.j6 (K : Nat) (rc : (List qb) → Int → Int → Int → qN (List qb)) (LY : List qb) (L0 : Int) (LZ : Int) : qN (List qb) :=
  qa.l7 K rc LZ K LY L0
def qa.l5 (K : Nat) (rc : (List qb) → Int → Int → Int → qN (List qb)) (LY : List qb) (LZ : Int) : Nat → Int → Int → qN (List qb)
  | 0, _, _ => .fail
  | k + 1, L1, L3 =>
    cond (decide (L1 < L3))
      (
      lt ((wr .i64 (z9 .u64 (wr .u64 (qh (L1 + L3))) (1 : Int)))) fun (L0 : Int) =>
      chk (inb LZ LY.length) <|
      chk (inb L0 LY.length) <|
      (xP.m K (qb.mk ((rd LY LZ).often_) ((rd LY LZ).symbols_)) (qb.mk ((rd LY L0).often_) ((rd LY L0).symbols_))).bind fun L5 =>
      cond (!(decide (L5 < (0 : Int))))
        (
        lt ((qh (L0 + (1 : Int)))) fun (L4 : Int) =>
        qa.l5 K rc LY LZ k L4 L3)
        (
        qa.l5 K rc LY LZ k L1 L0))
      (
      qa.j6 K rc LY LZ L1)
def qa.j13 (K : Nat) (rc : (List qb) → Int → Int → Int → qN (List qb)) (L1 : Int) (L0 : Int) (LY : Int) (LZ : (List qb)) : qN (List qb) :=
  cond ((decide (L0 < LY)) && (decide (LY < L1)))
    (
    (rc LZ L0 LY L1).bind fun L3 =>
    .ok L3)
    (
    .ok LZ)
def qa.j12 (K : Nat) (rc : (List qb) → Int → Int → Int → qN (List qb)) (L3 : Int) (L4 : Int) (LZ : Int) (LY : Int) (L1 : Int) (L0 : (List qb)) : qN (List qb) :=
  cond ((decide (L3 < LY)) && (decide (LY < LZ)))
    (
    (rc L0 L3 LY LZ).bind fun L5 =>
    qa.j13 K rc L4 LZ L1 L5)
    (
    qa.j13 K rc L4 LZ L1 L0)
def qa.j11 (K : Nat) (rc : (List qb) → Int → Int → Int → qN (List qb)) (L0 : List qb) (L3 : Int) (L6 : Int) (L4 : Int) (L1 : Int) (L7 : Int) (LY : Int) : qN (List qb) :=
  lt ((qh (L7 - LY))) fun (LZ : Int) =>
  cond ((decide (LY < L6)) && (decide (L6 < LZ)))
    (
    (qw.m K L0 LY L6 LZ).bind fun L5 =>
    qa.j12 K rc L3 L4 L1 LY LZ L5)
    (
    qa.j12 K rc L3 L4 L1 LY LZ L0)
def qa.l10 (K : Nat) (rc : (List qb) → Int → Int → Int → qN (List qb)) (LY : List qb) (L4 : Int) (L8 : Int) (L5 : Int) (L1 : Int) (L6 : Int) (L3 : Int) : Nat → Int → Int → qN (List qb)
  | 0, _, _ => .fail
  | k + 1, L0, L9 =>
    cond (decide (L0 < L9))
      (
      lt ((wr .i64 (z9 .u64 (wr .u64 (qh (L0 + L9))) (1 : Int)))) fun (LZ : Int) =>
      chk (inb (qh (L3 - LZ)) LY.length) <|
      chk (inb LZ LY.length) <|
      (xP.m K (qb.mk ((rd LY (qh (L3 - LZ))).often_) ((rd LY (qh (L3 - LZ))).symbols_)) (qb.mk ((rd LY LZ).often_) ((rd LY LZ).symbols_))).bind fun Ma =>
      cond (!(decide (Ma < (0 : Int))))
        (
        lt ((qh (LZ + (1 : Int)))) fun (L7 : Int) =>
        qa.l10 K rc LY L4 L8 L5 L1 L6 L3 k L7 L9)
        (
        qa.l10 K rc LY L4 L8 L5 L1 L6 L3 k L0 LZ))
      (
      qa.j11 K rc LY L4 L8 L5 L1 L6 L0)
def qa.j9 (K : Nat) (rc : (List qb) → Int → Int → Int → qN (List qb)) (LZ : List qb) (L3 : Int) (L5 : Int) (L4 : Int) (L1 : Int) (L0 : Int) (LY : Int) (L7 : Int) : qN (List qb) :=
  lt ((qh (L0 - (1 : Int)))) fun (L6 : Int) =>
  qa.l10 K rc LZ L3 L5 L4 L1 L0 L6 K LY L7
def qa.j8 (K : Nat) (rc : (List qb) → Int → Int → Int → qN (List qb)) (L1 : List qb) (LZ : Int) (L3 : Int) (L0 : Int) : qN (List qb) :=
  lt ((wr .i64 (z9 .u64 (wr .u64 (qh (LZ + L0))) (1 : Int)))) fun (LY : Int) =>
  lt ((qh (LY + L3))) fun (L4 : Int) =>
  cond (decide (L3 > LY))
    (
    lt ((qh (L4 - L0))) fun (L5 : Int) =>
    qa.j9 K rc L1 LZ L3 L0 LY L4 L5 LY)
    (
    qa.j9 K rc L1 LZ L3 L0 LY L4 LZ L3)
def qa.j4 (K : Nat) (rc : (List qb) → Int → Int → Int → qN (List qb)) (LY : List qb) (L0 : Int) (LZ : Int) (L1 : Int) : qN (List qb) :=
  cond ((qh (L1 - LZ)) == (1 : Int))
    (
    qa.l5 K rc LY LZ K L0 LZ)
    (
    qa.j8 K rc LY L0 LZ L1)
def qa.b (K : Nat) (rc : (List qb) → Int → Int → Int → qN (List qb)) (LY : List qb) (LZ : Int) (L1 : Int) (L0 : Int) : qN (List qb) :=
  cond ((qh (L1 - LZ)) == (1 : Int))
    (
    qa.l1 K rc LY LZ K L1 L0)
    (
    qa.j4 K rc LY LZ L1 L0)
def qa.r (K : Nat) : Nat → (List qb) → Int → Int → Int → qN (List qb)
  | 0 => fun _ _ _ _ => .fail
  | d + 1 => qa.b K (qa.r K d)
def qa.m (K : Nat) (LY : List qb) (LZ : Int) (L1 : Int) (L0 : Int) : qN (List qb) := qa.r K K LY LZ L1 L0
def qd.j5 (K : Nat) (g3 : (List qb) → Int → qN (List qb)) (L5 : Int) (LY : Int) (L1 : (List qb)) (L3 : Int) : qN (List qb) :=
  lt ((qh (L3 + LY))) fun (L6 : Int) =>
  cond (decide (L6 < L5))
    (
    (qa.m K L1 L3 L6 L5).bind fun L4 =>
    lt ((qh (LY * (2 : Int)))) fun (LZ : Int) =>
    g3 L4 LZ)
    (
    lt ((qh (LY * (2 : Int)))) fun (L0 : Int) =>
    g3 L1 L0)
def qd.l4 (K : Nat) (g3 : (List qb) → Int → qN (List qb)) (L3 : Int) (LY : Int) : Nat → (List qb) → Int → Int → qN (List qb)
  | 0, _, _, _ => .fail
  | k + 1, L0, L1, LZ =>
    cond (decide (LZ ≤ L3))
      (
      (qa.m K L0 L1 (qh (L1 + LY)) LZ).bind fun L4 =>
      lt ((qh (LZ + (qh ((2 : Int) * LY))))) fun (L5 : Int) =>
      qd.l4 K g3 L3 LY k L4 LZ L5)
      (
      qd.j5 K (g3) L3 LY L0 L1)
def qd.l3 (K : Nat) (L0 : Int) : Nat → (List qb) → Int → qN (List qb)
  | 0, _, _ => .fail
  | k + 1, LZ, LY =>
    cond (decide (LY < L0))
      (
      lt ((qh ((2 : Int) * LY))) fun (L1 : Int) =>
      qd.l4 K (qd.l3 K L0 k) L0 LY K LZ (0 : Int) L1)
      (
      .ok LZ)
def qd.j2 (K : Nat) (L0 : Int) (LY : (List qb)) (L1 : Int) : qN (List qb) :=
  (qc.m K LY L1 L0).bind fun LZ =>
  qd.l3 K L0 K LZ (20 : Int)
def qd.l1 (K : Nat) (L0 : Int) : Nat → (List qb) → Int → Int → qN (List qb)
  | 0, _, _, _ => .fail
  | k + 1, LZ, L1, LY =>
    cond (decide (LY ≤ L0))
      (
      (qc.m K LZ L1 LY).bind fun L3 =>
      lt ((qh (LY + (20 : Int)))) fun (L4 : Int) =>
      qd.l1 K L0 k L3 LY L4)
      (
      qd.j2 K L0 LZ L1)
def qd.m (K : Nat) (LY : List qb) (LZ : Int) : qN (List qb) :=
  qd.l1 K LZ K LY (0 : Int) (20 : Int)
def qT.m (K : Nat) (LZ : List qb) : qN (List qb) :=
  (qd.m K LZ (LZ.length : Int)).bind fun LY =>
  .ok LY
def xL.m (K : Nat) (LZ : Int) : qN Unit :=
  cond (decide (LZ < (0 : Int)))
    (
    .pan (.iface Ql (xf ([99, 97, 110, 110, 111, 116, 32, 98, 101, 32, 110, 101, 103, 97, 116, 105, 118, 101] : List UInt8))))
    (
    lt ((qh (LZ - (qh ((0 : Int) - (0 : Int)))))) fun (LY : Int) =>
    cond (decide (LY > (0 : Int)))
      (
      chk (decide ((0 : Int) < LY) && room (Int.toNat LY) 8) <|
      .ok ())
      (
      .ok ()))
def qS.l3 (K : Nat) (LY : List (List Int)) : Nat → (List Int) → Int → qN (List Int)
  | 0, _, _ => .fail
  | k + 1, LZ, L0 =>
    cond (decide (L0 < (LY.length : Int)))
      (
      chk (inb L0 LY.length) <|
      chk (room (LZ.length + (rd LY L0).length) 8) <|
      lt (LZ ++ (rd LY L0)) fun (L1 : (List Int)) =>
      qS.l3 K LY k L1 (qh (L0 + (1 : Int))))
      (
      .ok LZ)
def qS.j2 (K : Nat) (LY : List (List Int)) (LZ : Int) : qN (List Int) :=
  (xL.m K LZ).bind fun _ =>
  qS.l3 K LY K ([] : List Int) (0 : Int)
def qS.l1 (K : Nat) (LY : List (List Int)) : Nat → Int → Int → qN (List Int)
  | 0, _, _ => .fail
  | k + 1, LZ, L1 =>
    cond (decide (L1 < (LY.length : Int)))
      (
      chk (inb L1 LY.length) <|
      lt ((qh (LZ + ((rd LY L1).length : Int)))) fun (L0 : Int) =>
      cond (decide (L0 < (0 : Int)))
        (
        .pan (.iface Ql (xf ([108, 101, 110, 32, 111, 117, 116, 32, 111, 102, 32, 114, 97, 110, 103, 101] : List UInt8))))
        (
        qS.l1 K LY k L0 (qh (L1 + (1 : Int)))))
      (
      qS.j2 K LY LZ)
def qS.m (K : Nat) (LY : List (List Int)) : qN (List Int) :=
  qS.l1 K LY K (0 : Int) (0 : Int)
def xV.l1 (K : Nat) (LY : List qb) : Nat → (List qb) → Int → qN (List qb)
  | 0, _, _ => .fail
  | k + 1, L0, LZ =>
    cond (decide ((qh (LZ + (1 : Int))) < (LY.length : Int)))
      (
      chk (inb LZ LY.length) <|
      chk (inb (qh (LZ + (1 : Int))) LY.length) <|
      (qS.m K ([(rd LY LZ).symbols_, (rd LY (qh (LZ + (1 : Int)))).symbols_] : List (List Int))).bind fun L1 =>
      chk (room (L0.length + ([(qb.mk (qh ((rd LY LZ).often_ + (rd LY (qh (LZ + (1 : Int)))).often_)) L1)] : List qb).length) 32) <|
      lt (L0 ++ ([(qb.mk (qh ((rd LY LZ).often_ + (rd LY (qh (LZ + (1 : Int)))).often_)) L1)] : List qb)) fun (L3 : (List qb)) =>
      lt ((qh (LZ + (2 : Int)))) fun (L4 : Int) =>
      xV.l1 K LY k L3 L4)
      (
      .ok L0)
def xV.m (K : Nat) (LY : List qb) : qN (List qb) :=
  xV.l1 K LY K ([] : List qb) (0 : Int)
def zZ.m (K : Nat) (LZ : Int) : qN Unit :=
  cond (decide (LZ < (0 : Int)))
    (
    .pan (.iface Ql (xf ([99, 97, 110, 110, 111, 116, 32, 98, 101, 32, 110, 101, 103, 97, 116, 105, 118, 101] : List UInt8))))
    (
    lt ((qh (LZ - (qh ((0 : Int) - (0 : Int)))))) fun (LY : Int) =>
    cond (decide (LY > (0 : Int)))
      (
      chk (decide ((0 : Int) < LY) && room (Int.toNat LY) 32) <|
      .ok ())
      (
      .ok ()))
def qu.l3 (K : Nat) (LY : List (List qb)) : Nat → (List qb) → Int → qN (List qb)
  | 0, _, _ => .fail
  | k + 1, LZ, L0 =>
    cond (decide (L0 < (LY.length : Int)))
      (
      chk (inb L0 LY.length) <|
      chk (room (LZ.length + (rd LY L0).length) 32) <|
      lt (LZ ++ (rd LY L0)) fun (L1 : (List qb)) =>
      qu.l3 K LY k L1 (qh (L0 + (1 : Int))))
      (
      .ok LZ)
def qu.j2 (K : Nat) (LY : List (List qb)) (LZ : Int) : qN (List qb) :=
  (zZ.m K LZ).bind fun _ =>
  qu.l3 K LY K ([] : List qb) (0 : Int)
def qu.l1 (K : Nat) (LY : List (List qb)) : Nat → Int → Int → qN (List qb)
  | 0, _, _ => .fail
  | k + 1, LZ, L1 =>
    cond (decide (L1 < (LY.length : Int)))
      (
      chk (inb L1 LY.length) <|
      lt ((qh (LZ + ((rd LY L1).length : Int)))) fun (L0 : Int) =>
      cond (decide (L0 < (0 : Int)))
        (
        .pan (.iface Ql (xf ([108, 101, 110, 32, 111, 117, 116, 32, 111, 102, 32, 114, 97, 110, 103, 101] : List UInt8))))
        (
        qu.l1 K LY k L0 (qh (L1 + (1 : Int)))))
      (
      qu.j2 K LY LZ)
def qu.m (K : Nat) (LY : List (List qb)) : qN (List qb) :=
  qu.l1 K LY K (0 : Int) (0 : Int)
def yQ.m (K : Nat) (LY : List qb) (LZ : List qb) : qN (List qb) :=
  (qu.m K ([LY, LZ] : List (List qb))).bind fun L0 =>
  (qT.m K L0).bind fun L1 =>
  .ok L1
def qz.l8 (K : Nat) (g7 : (List Int) → Int → qN ((List Int) × Int)) (LZ : (List qb)) (L0 : Int) : Nat → (List Int) → Int → qN ((List Int) × Int)
  | 0, _, _ => .fail
  | k + 1, LY, L1 =>
    cond (decide (L1 < (((rd LZ L0).symbols_).length : Int)))
      (
      chk (inb L1 ((rd LZ L0).symbols_).length) <|
      lt ((rd ((rd LZ L0).symbols_) L1)) fun (L3 : Int) =>
      chk (inb L3 LY.length) <|
      lt (LY.set (Int.toNat L3) (qh ((rd LY L3) + (1 : Int)))) fun (L4 : (List Int)) =>
      qz.l8 K g7 LZ L0 k L4 (qh (L1 + (1 : Int))))
      (
      g7 LY (qh (L0 + (1 : Int))))
def qz.l7 (K : Nat) (LY : (List qb)) : Nat → (List Int) → Int → qN ((List Int) × Int)
  | 0, _, _ => .fail
  | k + 1, LZ, L0 =>
    cond (decide (L0 < (LY.length : Int)))
      (
      chk (inb L0 LY.length) <|
      qz.l8 K (qz.l7 K LY k) LY L0 K LZ (0 : Int))
      (
      .ok (LZ, (0 : Int)))
def qz.j6 (K : Nat) (LZ : (List Int)) (L0 : (List qb)) (LY : (List qb)) : qN ((List Int) × Int) :=
  chk (subok (0 : Int) (qh ((qh ((2 : Int) * (L0.length : Int))) - (2 : Int))) LY.length) <|
  lt (sub LY (0 : Int) (qh ((qh ((2 : Int) * (L0.length : Int))) - (2 : Int)))) fun (L1 : (List qb)) =>
  qz.l7 K L1 K LZ (0 : Int)
def qz.l5 (K : Nat) (LY : Int) (LZ : (List Int)) (L1 : (List qb)) : Nat → (List qb) → Int → qN ((List Int) × Int)
  | 0, _, _ => .fail
  | k + 1, L0, L3 =>
    cond (decide (L3 < (qh (LY - (1 : Int)))))
      (
      (xV.m K L0).bind fun L4 =>
      (yQ.m K L1 L4).bind fun L5 =>
      qz.l5 K LY LZ L1 k L5 (qh (L3 + (1 : Int))))
      (
      qz.j6 K LZ L1 L0)
def qz.j4 (K : Nat) (L0 : Int) (LY : (List qb)) (LZ : (List Int)) : qN ((List Int) × Int) :=
  cond (decide ((LY.length : Int) < (2 : Int)))
    (
    .ok (LZ, (0 : Int)))
    (
    (qT.m K LY).bind fun L1 =>
    qz.l5 K L0 LZ L1 K L1 (0 : Int))
def qz.j3 (K : Nat) (L0 : List Int) (LZ : Int) (LY : (List qb)) : qN ((List Int) × Int) :=
  chk (decide (0 ≤ LZ)) <|
  cond (decide ((LY.length : Int) > (z6 .i64 (1 : Int) LZ)))
    (
    .ok (([] : List Int), (1 : Int)))
    (
    chk (decide (0 ≤ (L0.length : Int)) && room (Int.toNat (L0.length : Int)) 8) <|
    lt (List.replicate (Int.toNat (L0.length : Int)) (0 : Int)) fun (L1 : (List Int)) =>
    cond ((LY.length : Int) == (1 : Int))
      (
      chk (inb (0 : Int) LY.length) <|
      chk (inb (0 : Int) ((rd LY (0 : Int)).symbols_).length) <|
      chk (inb (rd ((rd LY (0 : Int)).symbols_) (0 : Int)) L1.length) <|
      lt (L1.set (Int.toNat (rd ((rd LY (0 : Int)).symbols_) (0 : Int))) (1 : Int)) fun (L3 : (List Int)) =>
      qz.j4 K LZ LY L3)
      (
      qz.j4 K LZ LY L1))
def qz.l2 (K : Nat) (LY : List Int) (L0 : Int) : Nat → (List qb) → Int → qN ((List Int) × Int)
  | 0, _, _ => .fail
  | k + 1, LZ, L1 =>
    cond (decide (L1 < (LY.length : Int)))
      (
      chk (inb L1 LY.length) <|
      lt ((rd LY L1)) fun (L3 : Int) =>
      cond (decide (L3 > (0 : Int)))
        (
        chk (room (LZ.length + ([(qb.mk L3 ([L1] : List Int))] : List qb).length) 32) <|
        lt (LZ ++ ([(qb.mk L3 ([L1] : List Int))] : List qb)) fun (L4 : (List qb)) =>
        qz.l2 K LY L0 k L4 (qh (L1 + (1 : Int))))
        (
        qz.l2 K LY L0 k LZ (qh (L1 + (1 : Int)))))
      (
      qz.j3 K LY L0 LZ)
def qz.j1 (K : Nat) (LY : List Int) (LZ : Int) (L0 : Bool) : qN ((List Int) × Int) :=
  cond L0
    (
    .ok (([] : List Int), (1 : Int)))
    (
    qz.l2 K LY LZ K ([] : List qb) (0 : Int))
def qz.m (K : Nat) (LY : List Int) (LZ : Int) : qN ((List Int) × Int) :=
  cond (((decide (LZ < (1 : Int))) || (decide (LZ > (15 : Int)))) || (decide ((LY.length : Int) > (320 : Int))))
    (
    qz.j1 K LY LZ true)
    (
    (xB.m K LY).bind fun L0 =>
    qz.j1 K LY LZ L0)
def qV.j4 (K : Nat)  (LY : (List Int)) : qN ((List Int) × (List Int)) :=
  (qz.m K LY (15 : Int)).bind fun (LZ, L0) =>
  .ok (LZ, LY)
def qV.l3 (K : Nat)  : Nat → (List Int) → Int → Int → qN ((List Int) × (List Int))
  | 0, _, _, _ => .fail
  | k + 1, LY, L0, LZ =>
    cond (decide (L0 < (2 : Int)))
      (
      chk (inb LZ LY.length) <|
      cond ((rd LY LZ) == (0 : Int))
        (
        lt (LY.set (Int.toNat LZ) (qh ((rd LY LZ) + (1 : Int)))) fun (L3 : (List Int)) =>
        lt ((qh (L0 + (1 : Int)))) fun (L1 : Int) =>
        lt ((qh (LZ + (1 : Int)))) fun (L4 : Int) =>
        qV.l3 K k L3 L1 L4)
        (
        lt ((qh (LZ + (1 : Int)))) fun (L5 : Int) =>
        qV.l3 K k LY L0 L5))
      (
      qV.j4 K LY)
def qV.j2 (K : Nat) (LY : List Int) (LZ : Int) : qN ((List Int) × (List Int)) :=
  qV.l3 K K LY LZ (0 : Int)
def qV.l1 (K : Nat) (LY : List Int) : Nat → Int → Int → qN ((List Int) × (List Int))
  | 0, _, _ => .fail
  | k + 1, L1, LZ =>
    cond (decide (LZ < (LY.length : Int)))
      (
      chk (inb LZ LY.length) <|
      lt ((rd LY LZ)) fun (L0 : Int) =>
      lt ((qh (L1 + (if (1 : Int) < L0 then (1 : Int) else L0)))) fun (L3 : Int) =>
      qV.l1 K LY k L3 (qh (LZ + (1 : Int))))
      (
      qV.j2 K LY L1)
def qV.m (K : Nat) (LY : List Int) : qN ((List Int) × (List Int)) :=
  qV.l1 K LY K (0 : Int) (0 : Int)
def qP.j4 (K : Nat) (g1 : (List qi) → Int → qN (List qi)) (L0 : List Int) (LY : (List qi)) (L1 : Int) (LZ : Int) : qN (List qi) :=
  chk (inb L1 L0.length) <|
  lt ((((rd L0 L1) == (0 : Int)) && (decide (LZ ≥ (11 : Int))))) fun (Md : Bool) =>
  cond Md
    (
    lt ((if (138 : Int) < LZ then (138 : Int) else LZ)) fun (L3 : Int) =>
    chk (room (LY.length + ([(qi.mk (18 : Int) (qh (L3 - (11 : Int))) (7 : Int))] : List qi).length) 24) <|
    lt (LY ++ ([(qi.mk (18 : Int) (qh (L3 - (11 : Int))) (7 : Int))] : List qi)) fun (L5 : (List qi)) =>
    lt ((qh (L1 + L3))) fun (L9 : Int) =>
    g1 L5 L9)
    (
    lt ((((rd L0 L1) == (0 : Int)) && (decide (LZ ≥ (3 : Int))))) fun (Me : Bool) =>
    cond Me
      (
      chk (room (LY.length + ([(qi.mk (17 : Int) (qh (LZ - (3 : Int))) (3 : Int))] : List qi).length) 24) <|
      lt (LY ++ ([(qi.mk (17 : Int) (qh (LZ - (3 : Int))) (3 : Int))] : List qi)) fun (L6 : (List qi)) =>
      lt ((qh (L1 + LZ))) fun (Ma : Int) =>
      g1 L6 Ma)
      (
      lt ((decide (LZ ≥ (4 : Int)))) fun (Mf : Bool) =>
      cond Mf
        (
        lt ((if (7 : Int) < LZ then (7 : Int) else LZ)) fun (L4 : Int) =>
        chk (room (LY.length + ([(qi.mk (rd L0 L1) (0 : Int) (0 : Int)), (qi.mk (16 : Int) (qh (L4 - (4 : Int))) (2 : Int))] : List qi).length) 24) <|
        lt (LY ++ ([(qi.mk (rd L0 L1) (0 : Int) (0 : Int)), (qi.mk (16 : Int) (qh (L4 - (4 : Int))) (2 : Int))] : List qi)) fun (L7 : (List qi)) =>
        lt ((qh (L1 + L4))) fun (Mb : Int) =>
        g1 L7 Mb)
        (
        chk (room (LY.length + ([(qi.mk (rd L0 L1) (0 : Int) (0 : Int))] : List qi).length) 24) <|
        lt (LY ++ ([(qi.mk (rd L0 L1) (0 : Int) (0 : Int))] : List qi)) fun (L8 : (List qi)) =>
        lt ((qh (L1 + (1 : Int)))) fun (Mc : Int) =>
        g1 L8 Mc)))
def qP.j3 (K : Nat) (g1 : (List qi) → Int → qN (List qi)) (g2 : Int → qN (List qi)) (L0 : List Int) (LZ : (List qi)) (L3 : Int) (LY : Int) (L4 : Bool) : qN (List qi) :=
  cond L4
    (
    lt ((qh (LY + (1 : Int)))) fun (L1 : Int) =>
    g2 L1)
    (
    qP.j4 K (g1) L0 LZ L3 LY)
def qP.l2 (K : Nat) (g1 : (List qi) → Int → qN (List qi)) (LY : List Int) (L0 : (List qi)) (LZ : Int) : Nat → Int → qN (List qi)
  | 0, _ => .fail
  | k + 1, L1 =>
    cond (decide ((qh (LZ + L1)) < (LY.length : Int)))
      (
      chk (inb (qh (LZ + L1)) LY.length) <|
      chk (inb LZ LY.length) <|
      qP.j3 K (g1) (qP.l2 K g1 LY L0 LZ k) LY L0 LZ L1 ((rd LY (qh (LZ + L1))) == (rd LY LZ)))
      (
      qP.j3 K (g1) (qP.l2 K g1 LY L0 LZ k) LY L0 LZ L1 false)
def qP.l1 (K : Nat) (LY : List Int) : Nat → (List qi) → Int → qN (List qi)
  | 0, _, _ => .fail
  | k + 1, LZ, L0 =>
    cond (decide (L0 < (LY.length : Int)))
      (
      qP.l2 K (qP.l1 K LY k) LY LZ L0 K (1 : Int))
      (
      .ok LZ)
def qP.m (K : Nat) (LY : List Int) : qN (List qi) :=
  qP.l1 K LY K ([] : List qi) (0 : Int)
def zO.l1 (K : Nat) (L0 : qp) (LZ : qv) (L5 : Int) : Nat → Int → (List Int) → Int → qN (Int × (List Int))
  | 0, _, _, _ => .fail
  | k + 1, L1, LY, L3 =>
    cond (decide (L3 ≥ (0 : Int)))
      (
      chk (inb L5 LZ.codes_.length) <|
      chk (decide (0 ≤ L3)) <|
      (qn.m K (qp.mk (qR.mk (qr.mk L1) LY) L0.literals_ L0.distances_) (wr .u32 (xD .i64 (z9 .i64 (rd LZ.codes_ L5) L3) (1 : Int))) (1 : Int)).bind fun (L8, L6, L4) =>
      lt ((qh (L3 - (1 : Int)))) fun (L7 : Int) =>
      zO.l1 K L0 LZ L5 k L6 L4 L7)
      (
      .ok (L1, LY))
def zO.m (K : Nat) (LZ : qp) (LY : qv) (L0 : Int) : qN (Int × (List Int)) :=
  chk (inb L0 LY.lengths_.length) <|
  lt ((qh ((rd LY.lengths_ L0) - (1 : Int)))) fun (L1 : Int) =>
  zO.l1 K LZ LY L0 K LZ.Writer_.place_.at_ LZ.Writer_.bytes_ L1
def qg.j12 (K : Nat) (L7 : List qM) (L5 : (List Int)) (LY : (List Int)) (L6 : (List Int)) (LZ : (List Int)) (L3 : Int) (L0 : (List Int)) : qN ((List UInt8) × Int) :=
  (zi.m K (qp.mk (qR.mk (qr.mk L3) L0) (qv.mk L5 LY) (qv.mk L6 LZ)) L7).bind fun (L4, L1) =>
  (zX.m K (qp.mk (qR.mk (qr.mk L4) L1) (qv.mk L5 LY) (qv.mk L6 LZ))).bind fun L8 =>
  .ok (L8, (0 : Int))
def qg.l11 (K : Nat) (Ma : List qM) (L6 : (List Int)) (LY : (List Int)) (L7 : (List Int)) (LZ : (List Int)) (L4 : (List qi)) (Md : (List Int)) (L1 : (List Int)) : Nat → Int → (List Int) → Int → qN ((List UInt8) × Int)
  | 0, _, _, _ => .fail
  | k + 1, L5, L0, L3 =>
    cond (decide (L3 < (L4.length : Int)))
      (
      chk (inb L3 L4.length) <|
      (zO.m K (qp.mk (qR.mk (qr.mk L5) L0) (qv.mk L6 LY) (qv.mk L7 LZ)) (qv.mk Md L1) ((rd L4 L3).symbol_)).bind fun (Mb, L8) =>
      (qn.m K (qp.mk (qR.mk (qr.mk Mb) L8) (qv.mk L6 LY) (qv.mk L7 LZ)) (wr .u32 (rd L4 L3).more_) ((rd L4 L3).bits_)).bind fun (Me, Mc, L9) =>
      qg.l11 K Ma L6 LY L7 LZ L4 Md L1 k Mc L9 (qh (L3 + (1 : Int))))
      (
      qg.j12 K Ma L6 LY L7 LZ L5 L0)
def qg.j10 (K : Nat) (L4 : List qM) (L5 : (List Int)) (LZ : (List Int)) (L6 : (List Int)) (L0 : (List Int)) (L7 : (List qi)) (L8 : (List Int)) (L1 : (List Int)) (L3 : Int) (LY : (List Int)) : qN ((List UInt8) × Int) :=
  qg.l11 K L4 L5 LZ L6 L0 L7 L8 L1 K L3 LY (0 : Int)
def qg.l9 (K : Nat) (L7 : List qM) (L8 : (List Int)) (LY : (List Int)) (L9 : (List Int)) (LZ : (List Int)) (Mc : (List qi)) (L5 : (List Int)) (L1 : (List Int)) : Nat → Int → (List Int) → Int → qN ((List UInt8) × Int)
  | 0, _, _, _ => .fail
  | k + 1, L3, L0, L4 =>
    cond (decide (L4 < (19 : Int)))
      (
      chk (inb L4 19) <|
      lt ((rd tab_deflate_order L4)) fun (Mb : Int) =>
      chk (inb Mb L5.length) <|
      (qn.m K (qp.mk (qR.mk (qr.mk L3) L0) (qv.mk L8 LY) (qv.mk L9 LZ)) (wr .u32 (rd L5 Mb)) (3 : Int)).bind fun (Md, Ma, L6) =>
      qg.l9 K L7 L8 LY L9 LZ Mc L5 L1 k Ma L6 (qh (L4 + (1 : Int))))
      (
      qg.j10 K L7 L8 LY L9 LZ Mc L5 L1 L3 L0)
def qg.j8 (K : Nat) (Me : List qM) (L0 : (List Int)) (LY : (List Int)) (L1 : (List Int)) (LZ : (List Int)) (Mf : (List qi)) (L8 : (List Int)) : qN ((List UInt8) × Int) :=
  (qz.m K L8 (7 : Int)).bind fun (Md, Mg) =>
  (yd.m K Md).bind fun L7 =>
  (qn.m K (qp.mk (qR.mk (qr.mk (0 : Int)) ([] : List Int)) (qv.mk L0 LY) (qv.mk L1 LZ)) (5 : Int) (3 : Int)).bind fun (Mh, L9, L3) =>
  (qn.m K (qp.mk (qR.mk (qr.mk L9) L3) (qv.mk L0 LY) (qv.mk L1 LZ)) (29 : Int) (5 : Int)).bind fun (Mi, Ma, L4) =>
  (qn.m K (qp.mk (qR.mk (qr.mk Ma) L4) (qv.mk L0 LY) (qv.mk L1 LZ)) (29 : Int) (5 : Int)).bind fun (Mj, Mb, L5) =>
  (qn.m K (qp.mk (qR.mk (qr.mk Mb) L5) (qv.mk L0 LY) (qv.mk L1 LZ)) (15 : Int) (4 : Int)).bind fun (Mk, Mc, L6) =>
  qg.l9 K Me L0 LY L1 LZ Mf Md L7 K Mc L6 (0 : Int)
def qg.j7 (K : Nat) (L1 : List qM) (L4 : (List Int)) (LZ : (List Int)) (L5 : (List Int)) (L0 : (List Int)) (L6 : (List qi)) (LY : (List Int)) (L7 : Int) : qN ((List UInt8) × Int) :=
  cond (decide (L7 < (2 : Int)))
    (
    chk (inb (0 : Int) LY.length) <|
    chk (inb (1 : Int) LY.length) <|
    lt (LY.set (Int.toNat (0 : Int)) (if (1 : Int) > (rd LY (0 : Int)) then (1 : Int) else (rd LY (0 : Int)))) fun (L3 : (List Int)) =>
    chk (inb (1 : Int) L3.length) <|
    lt (L3.set (Int.toNat (1 : Int)) (if (1 : Int) > (rd LY (1 : Int)) then (1 : Int) else (rd LY (1 : Int)))) fun (L8 : (List Int)) =>
    qg.j8 K L1 L4 LZ L5 L0 L6 L8)
    (
    qg.j8 K L1 L4 LZ L5 L0 L6 LY)
def qg.l6 (K : Nat) (L4 : List qM) (L6 : (List Int)) (LZ : (List Int)) (L7 : (List Int)) (L0 : (List Int)) (L8 : (List qi)) (LY : (List Int)) : Nat → Int → Int → qN ((List UInt8) × Int)
  | 0, _, _ => .fail
  | k + 1, L5, L1 =>
    cond (decide (L1 < (LY.length : Int)))
      (
      chk (inb L1 LY.length) <|
      lt ((rd LY L1)) fun (L3 : Int) =>
      lt ((qh (L5 + (if (1 : Int) < L3 then (1 : Int) else L3)))) fun (L9 : Int) =>
      qg.l6 K L4 L6 LZ L7 L0 L8 LY k L9 (qh (L1 + (1 : Int))))
      (
      qg.j7 K L4 L6 LZ L7 L0 L8 LY L5)
def qg.j5 (K : Nat) (L1 : List qM) (L3 : (List Int)) (LY : (List Int)) (L4 : (List Int)) (LZ : (List Int)) (L5 : (List qi)) (L0 : (List Int)) : qN ((List UInt8) × Int) :=
  qg.l6 K L1 L3 LY L4 LZ L5 L0 K (0 : Int) (0 : Int)
def qg.l4 (K : Nat) (L4 : List qM) (L5 : (List Int)) (L0 : (List Int)) (L6 : (List Int)) (L1 : (List Int)) (LZ : (List qi)) : Nat → (List Int) → Int → qN ((List UInt8) × Int)
  | 0, _, _ => .fail
  | k + 1, LY, L3 =>
    cond (decide (L3 < (LZ.length : Int)))
      (
      chk (inb L3 LZ.length) <|
      chk (inb (rd LZ L3).symbol_ LY.length) <|
      lt (LY.set (Int.toNat (rd LZ L3).symbol_) (qh ((rd LY (rd LZ L3).symbol_) + (1 : Int)))) fun (L7 : (List Int)) =>
      qg.l4 K L4 L5 L0 L6 L1 LZ k L7 (qh (L3 + (1 : Int))))
      (
      qg.j5 K L4 L5 L0 L6 L1 LZ LY)
def qg.j3 (K : Nat) (L6 : List qM) (LZ : (List Int)) (LY : (List Int)) : qN ((List UInt8) × Int) :=
  (qV.m K LZ).bind fun (L0, L9) =>
  (yd.m K L0).bind fun L3 =>
  (qV.m K LY).bind fun (L1, Ma) =>
  (yd.m K L1).bind fun L4 =>
  chk (room (([] : List Int).length + L0.length) 8) <|
  lt (([] : List Int) ++ L0) fun (L5 : (List Int)) =>
  chk (room (L5.length + L1.length) 8) <|
  lt (L5 ++ L1) fun (L7 : (List Int)) =>
  (qP.m K L7).bind fun Mb =>
  chk (decide (0 ≤ (19 : Int)) && room (Int.toNat (19 : Int)) 8) <|
  lt (List.replicate (Int.toNat (19 : Int)) (0 : Int)) fun (L8 : (List Int)) =>
  qg.l4 K L6 L0 L3 L1 L4 Mb K L8 (0 : Int)
def qg.l2 (K : Nat) (L0 : List qM) : Nat → (List Int) → (List Int) → Int → qN ((List UInt8) × Int)
  | 0, _, _, _ => .fail
  | k + 1, LY, LZ, L1 =>
    cond (decide (L1 < (L0.length : Int)))
      (
      chk (inb L1 L0.length) <|
      cond ((rd L0 L1).Dist_ == (0 : Int))
        (
        chk (inb (rd L0 L1).Lit_ LY.length) <|
        lt (LY.set (Int.toNat (rd L0 L1).Lit_) (qh ((rd LY (rd L0 L1).Lit_) + (1 : Int)))) fun (L5 : (List Int)) =>
        qg.l2 K L0 k L5 LZ (qh (L1 + (1 : Int))))
        (
        (yL.m K ((rd L0 L1).Len_)).bind fun (L3, L8, Ma) =>
        chk (inb L3 LY.length) <|
        lt (LY.set (Int.toNat L3) (qh ((rd LY L3) + (1 : Int)))) fun (L6 : (List Int)) =>
        (yx.m K ((rd L0 L1).Dist_)).bind fun (L4, L9, Mb) =>
        chk (inb L4 LZ.length) <|
        lt (LZ.set (Int.toNat L4) (qh ((rd LZ L4) + (1 : Int)))) fun (L7 : (List Int)) =>
        qg.l2 K L0 k L6 L7 (qh (L1 + (1 : Int)))))
      (
      qg.j3 K L0 LY LZ)
def qg.j1 (K : Nat) (L0 : List qM) (LY : (List Int)) (LZ : (List Int)) : qN ((List UInt8) × Int) :=
  chk (inb (256 : Int) LY.length) <|
  lt (LY.set (Int.toNat (256 : Int)) (qh ((rd LY (256 : Int)) + (1 : Int)))) fun (L1 : (List Int)) =>
  qg.l2 K L0 K L1 LZ (0 : Int)
def qg.m (K : Nat) (LY : List qM) : qN ((List UInt8) × Int) :=
  (je.m K LY).bind fun L1 =>
  cond (!L1)
    (
    .ok (([] : List UInt8), (1 : Int)))
    (
    chk (decide (0 ≤ (286 : Int)) && room (Int.toNat (286 : Int)) 8) <|
    lt (List.replicate (Int.toNat (286 : Int)) (0 : Int)) fun (LZ : (List Int)) =>
    chk (decide (0 ≤ (30 : Int)) && room (Int.toNat (30 : Int)) 8) <|
    lt (List.replicate (Int.toNat (30 : Int)) (0 : Int)) fun (L0 : (List Int)) =>
    qg.j1 K LY LZ L0)
def zY.j1 (K : Nat) (L0 : (List qM)) (LY : List UInt8) : qN (List UInt8) :=
  (qg.m K L0).bind fun (LZ, L1) =>
  cond ((L1 == (0 : Int)) && (decide ((LZ.length : Int) < (LY.length : Int))))
    (
    .ok LZ)
    (
    .ok LY)
def zY.m (K : Nat) (LZ : List UInt8) : qN (List UInt8) :=
  (zV.m K LZ).bind fun LY =>
  (zU.m K LZ).bind fun L0 =>
  (jm.m K LY).bind fun (L1, L3) =>
  cond ((L3 == (0 : Int)) && (decide ((L1.length : Int) < (L0.length : Int))))
    (
    zY.j1 K LY L1)
    (
    zY.j1 K LY L0)
def Qe.m (K : Nat) (LZ : List UInt8) : qN (List UInt8) :=
  (jN.m K LZ).bind fun L3 =>
  (xl.m K (wr .u64 L3) (4 : Int)).bind fun (L0, L4) =>
  (zY.m K LZ).bind fun LY =>
  chk (VN (([120, 156] : List UInt8).length + LY.length)) <|
  chk (VN ((([120, 156] : List UInt8) ++ LY).length + L0.length)) <|
  lt (((([120, 156] : List UInt8) ++ LY) ++ L0)) fun (L1 : List UInt8) =>
  .ok L1
def zr.j2 (K : Nat)  (LZ : Int) (L0 : Int) : qN Int :=
  lt ((wr .u32 ((wr .u32 ((65536 : Int) * L0)) + LZ))) fun (LY : Int) =>
  .ok LY
def zr.l1 (K : Nat) (LZ : List UInt8) : Nat → Int → Int → Int → qN Int
  | 0, _, _, _ => .fail
  | k + 1, L0, L3, LY =>
    cond (decide (LY < (LZ.length : Int)))
      (
      chk (inb LY LZ.length) <|
      lt ((yW (wr .u32 (L0 + (wr .u32 ((rd LZ LY).toNat : Int)))) (65521 : Int))) fun (L1 : Int) =>
      lt ((yW (wr .u32 (L3 + L1)) (65521 : Int))) fun (L5 : Int) =>
      lt ((qh (LY + (1 : Int)))) fun (L4 : Int) =>
      zr.l1 K LZ k L1 L5 L4)
      (
      zr.j2 K L0 L3)
def zr.m (K : Nat) (LY : Int) (LZ : List UInt8) : qN Int :=
  lt ((yW (yW LY (65536 : Int)) (65521 : Int))) fun (L0 : Int) =>
  lt ((yW (xX .u32 LY (65536 : Int)) (65521 : Int))) fun (L1 : Int) =>
  zr.l1 K LZ K L0 L1 (0 : Int)
def yy.m (K : Nat) (LY : List UInt8) : qN Int :=
  (zr.m K (1 : Int) LY).bind fun LZ =>
  .ok LZ
def yO.m (K : Nat) (LY : Int) : qN (List UInt8) :=
  lt ((([(wr .u8 (xX .u32 LY (16777216 : Int))), (wr .u8 (xX .u32 LY (65536 : Int))), (wr .u8 (xX .u32 LY (256 : Int))), (wr .u8 LY)] : List Int).map uh)) fun (LZ : List UInt8) =>
  .ok LZ
def xc.j1 (K : Nat)  (LY : Bool) : qN Bool :=
  .ok LY
def xc.m (K : Nat) (s1 : List UInt8) : qN Bool :=
  cond (decide ((s1.length : Int) > (4000 : Int)))
    (
    (yn.m K).bind fun L0 =>
    .ok L0)
    (
    (Qe.m K s1).bind fun L1 =>
    (zY.m K s1).bind fun LY =>
    chk (VN (([120, 156] : List UInt8).length + LY.length)) <|
    (yy.m K s1).bind fun L3 =>
    (yO.m K L3).bind fun LZ =>
    chk (VN ((([120, 156] : List UInt8) ++ LY).length + LZ.length)) <|
    cond (L1 == ((([120, 156] : List UInt8) ++ LY) ++ LZ))
      (
      (yn.m K).bind fun L4 =>
      xc.j1 K L4)
      (
      xc.j1 K false))
end Go.Mo
