/- Models of the Go functions that this statement reaches, printed by a program of mine: nothing is proved but lengths of tables. -/
import Derived.Test.YtjgcmokfinicnaaDoorOwn
set_option linter.unusedVariables false
set_option linter.unusedSimpArgs false
namespace Go.Mo
open Go Go.Sl
structure qB where
  Lit_ : Int
  Len_ : Int
  Dist_ : Int
  deriving Inhabited
structure qt where
  at_ : Int
  deriving Inhabited
structure qW where
  place_ : qt
  bytes_ : (List Int)
  deriving Inhabited
structure qw where
  lengths_ : (List Int)
  codes_ : (List Int)
  deriving Inhabited
structure qs where
  Writer_ : qW
  literals_ : qw
  distances_ : qw
  deriving Inhabited
structure xV where
  symbol_ : Int
  bits_ : Int
  more_ : Int
  deriving Inhabited
structure qb where
  often_ : Int
  symbols_ : (List Int)
  deriving Inhabited
structure qm where
  symbol_ : Int
  more_ : Int
  bits_ : Int
  deriving Inhabited
structure xp where
  text_ : List UInt8
  seen_ : (List ((List Int) × (List Int)))
  deriving Inhabited
structure Jo where
  B_ : (List Int)
  deriving Inhabited
structure Qa where
  S_ : List UInt8
  At_ : Int
  deriving Inhabited
structure JR where
  r_ : Qa
  out_ : (List Int)
  limit_ : Int
  deriving Inhabited
structure Vj where
  l_ : (List Int)
  codes_ : (List Int)
  deriving Inhabited
structure qL where
  place_ : qt
  text_ : List UInt8
  deriving Inhabited
structure qA where
  Reader_ : qL
  out_ : (List Int)
  limit_ : Int
  deriving Inhabited
structure qK where
  counts_ : (List Int)
  symbols_ : (List Int)
  deriving Inhabited
structure xD where
  from_ : Int
  bits_ : Int
  deriving Inhabited
abbrev QB : TypeId := 9
abbrev xC : TypeId := 94
def tab_deflate_order : List Int := [16, 17, 18, 0, 8, 7, 9, 6, 10, 5, 11, 4, 12, 3, 13, 2, 14, 1, 15]
theorem u9 : tab_deflate_order.length = 19 := by decide
def tab_inflate_lengths : List xD := [⟨3, 0⟩, ⟨4, 0⟩, ⟨5, 0⟩, ⟨6, 0⟩, ⟨7, 0⟩, ⟨8, 0⟩, ⟨9, 0⟩, ⟨10, 0⟩, ⟨11, 1⟩, ⟨13, 1⟩, ⟨15, 1⟩, ⟨17, 1⟩, ⟨19, 2⟩, ⟨23, 2⟩, ⟨27, 2⟩, ⟨31, 2⟩, ⟨35, 3⟩, ⟨43, 3⟩, ⟨51, 3⟩, ⟨59, 3⟩, ⟨67, 4⟩, ⟨83, 4⟩, ⟨99, 4⟩, ⟨115, 4⟩, ⟨131, 5⟩, ⟨163, 5⟩, ⟨195, 5⟩, ⟨227, 5⟩, ⟨258, 0⟩]
def tab_inflate_distances : List xD := [⟨1, 0⟩, ⟨2, 0⟩, ⟨3, 0⟩, ⟨4, 0⟩, ⟨5, 1⟩, ⟨7, 1⟩, ⟨9, 2⟩, ⟨13, 2⟩, ⟨17, 3⟩, ⟨25, 3⟩, ⟨33, 4⟩, ⟨49, 4⟩, ⟨65, 5⟩, ⟨97, 5⟩, ⟨129, 6⟩, ⟨193, 6⟩, ⟨257, 7⟩, ⟨385, 7⟩, ⟨513, 8⟩, ⟨769, 8⟩, ⟨1025, 9⟩, ⟨1537, 9⟩, ⟨2049, 10⟩, ⟨3073, 10⟩, ⟨4097, 11⟩, ⟨6145, 11⟩, ⟨8193, 12⟩, ⟨12289, 12⟩, ⟨16385, 13⟩, ⟨24577, 13⟩]
def tab_inflate_order : List Int := [16, 17, 18, 0, 8, 7, 9, 6, 10, 5, 11, 4, 12, 3, 13, 2, 14, 1, 15]
theorem u7 : tab_inflate_order.length = 19 := by decide
def vU.m (K : Nat) (LF : qB) : qS Bool :=
  cond (LF.Dist_ == (0 : Int))
    (
    lt ((LF.Len_ == (0 : Int))) fun (LG : Bool) =>
    .ok LG)
    (
    lt ((((((decide (LF.Dist_ > (0 : Int))) && (decide (LF.Dist_ ≤ (32768 : Int)))) && (decide (LF.Len_ ≥ (3 : Int)))) && (decide (LF.Len_ ≤ (258 : Int)))) && (LF.Lit_ == (0 : Int)))) fun (LH : Bool) =>
    .ok LH)
def yd.l1 (K : Nat) (LF : Int) : Nat → Int → Int → qS Int
  | 0, _, _ => .fail
  | k + 1, LG, LH =>
    chk (decide (0 ≤ LF)) <|
    cond (decide (LG ≥ (xf .i64 (2 : Int) LF)))
      (
      lt ((xF .i64 LG (1 : Int))) fun (LI : Int) =>
      lt ((qh (LH + (1 : Int)))) fun (LJ : Int) =>
      yd.l1 K LF k LI LJ)
      (
      .ok LH)
def yd.m (K : Nat) (LG : Int) (LF : Int) : qS Int :=
  yd.l1 K LF K LG (0 : Int)
def yQ.m (K : Nat) (LF : Int) : qS Int :=
  lt ((LF == (258 : Int))) fun (LG : Bool) =>
  cond LG
    (
    .ok (8 : Int))
    (
    lt ((decide (LF ≥ (115 : Int)))) fun (LH : Bool) =>
    cond LH
      (
      (yd.m K (qh (LF - (3 : Int))) (2 : Int)).bind fun LI =>
      lt ((qh ((8 : Int) + LI))) fun (LJ : Int) =>
      .ok LJ)
      (
      (yd.m K (qh (LF - (3 : Int))) (2 : Int)).bind fun LK =>
      lt ((qh ((7 : Int) + LK))) fun (LL : Int) =>
      .ok LL))
def x5.l1 (K : Nat) (LF : List qB) : Nat → Int → Int → qS (Int × Int)
  | 0, _, _ => .fail
  | k + 1, LH, LG =>
    cond (decide (LG < (LF.length : Int)))
      (
      chk (inb LG LF.length) <|
      (vU.m K (qB.mk ((rd LF LG).Lit_) ((rd LF LG).Len_) ((rd LF LG).Dist_))).bind fun LL =>
      lt ((!LL)) fun (LM : Bool) =>
      cond LM
        (
        .ok ((0 : Int), (1 : Int)))
        (
        lt ((((rd LF LG).Dist_ == (0 : Int)) && (decide ((rd LF LG).Lit_ < (144 : Int))))) fun (LN : Bool) =>
        cond LN
          (
          lt ((qh (LH + (8 : Int)))) fun (LI : Int) =>
          x5.l1 K LF k LI (qh (LG + (1 : Int))))
          (
          lt (((rd LF LG).Dist_ == (0 : Int))) fun (LO : Bool) =>
          cond LO
            (
            lt ((qh (LH + (9 : Int)))) fun (LJ : Int) =>
            x5.l1 K LF k LJ (qh (LG + (1 : Int))))
            (
            (yQ.m K ((rd LF LG).Len_)).bind fun LP =>
            (yd.m K (qh ((rd LF LG).Dist_ - (1 : Int))) (1 : Int)).bind fun LQ =>
            lt ((qh (LH + (qh ((qh (LP + (5 : Int))) + LQ))))) fun (LK : Int) =>
            x5.l1 K LF k LK (qh (LG + (1 : Int)))))))
      (
      .ok (LH, (0 : Int)))
def x5.m (K : Nat) (LF : List qB) : qS (Int × Int) :=
  x5.l1 K LF K (7 : Int) (0 : Int)
def jk.m (K : Nat) (LF : List qB) : qS Bool :=
  (x5.m K LF).bind fun (LI, LG) =>
  lt ((LG == (0 : Int))) fun (LH : Bool) =>
  .ok LH
def xi.j2 (K : Nat)  (LF : (List Int)) : qS ((List Int) × Bool) :=
  lt (LF.set (Int.toNat (0 : Int)) (0 : Int)) fun (LG : (List Int)) =>
  .ok (LG, true)
def xi.l1 (K : Nat) (LF : List Int) : Nat → (List Int) → Int → qS ((List Int) × Bool)
  | 0, _, _ => .fail
  | k + 1, LH, LI =>
    cond (decide (LI < (LF.length : Int)))
      (
      chk (inb LI LF.length) <|
      lt ((rd LF LI)) fun (LG : Int) =>
      cond ((decide (LG < (0 : Int))) || (decide (LG > (15 : Int))))
        (
        .ok (LH, false))
        (
        chk (inb LG 16) <|
        lt (LH.set (Int.toNat LG) (qh ((rd LH LG) + (1 : Int)))) fun (LJ : (List Int)) =>
        xi.l1 K LF k LJ (qh (LI + (1 : Int)))))
      (
      xi.j2 K LH)
def xi.m (K : Nat) (LF : List Int) : qS ((List Int) × Bool) :=
  cond (decide ((LF.length : Int) > (320 : Int)))
    (
    .ok ((List.replicate 16 (0 : Int)), false))
    (
    xi.l1 K LF K (List.replicate 16 (0 : Int)) (0 : Int))
def xu.j2 (K : Nat) (LG : (List Int)) (LF : Int) : qS Int :=
  cond (((LF == (0 : Int)) || (LF == (32768 : Int))) || (LG == ([0, (1 : Int), 0, 0, 0, 0, 0, 0, 0, 0, 0, 0, 0, 0, 0, 0] : List Int)))
    (
    .ok (0 : Int))
    (
    .ok (3 : Int))
def xu.l1 (K : Nat) (LH : (List Int)) : Nat → Int → Int → qS Int
  | 0, _, _ => .fail
  | k + 1, LG, LF =>
    cond (decide (LF < (16 : Int)))
      (
      chk (inb LF 16) <|
      lt ((rd LH LF)) fun (LJ : Int) =>
      chk (decide (0 ≤ LF)) <|
      lt ((qh (LG + (qh (LJ * (xF .i64 (32768 : Int) LF)))))) fun (LI : Int) =>
      xu.l1 K LH k LI (qh (LF + (1 : Int))))
      (
      xu.j2 K LH LG)
def xu.m (K : Nat) (LF : List Int) : qS Int :=
  (xi.m K LF).bind fun (LG, LH) =>
  cond (!LH)
    (
    .ok (1 : Int))
    (
    xu.l1 K LG K (0 : Int) (0 : Int))
def zJ.j2 (K : Nat)  (LF : (List Int)) : qS (List Int) :=
  .ok LF
def zJ.l1 (K : Nat) (LJ : List Int) : Nat → (List Int) → Int → Int → qS (List Int)
  | 0, _, _, _ => .fail
  | k + 1, LG, LI, LF =>
    cond (decide (LF ≤ (15 : Int)))
      (
      chk (inb (qh (LF - (1 : Int))) 16) <|
      lt ((xf .i64 (qh (LI + (rd LJ (qh (LF - (1 : Int)))))) (1 : Int))) fun (LH : Int) =>
      chk (inb LF 16) <|
      lt (LG.set (Int.toNat LF) LH) fun (LK : (List Int)) =>
      lt ((qh (LF + (1 : Int)))) fun (LL : Int) =>
      zJ.l1 K LJ k LK LH LL)
      (
      zJ.j2 K LG)
def zJ.m (K : Nat) (LF : List Int) : qS (List Int) :=
  zJ.l1 K LF K (List.replicate 16 (0 : Int)) (0 : Int) (1 : Int)
def yb.l1 (K : Nat) (LF : List Int) : Nat → (List Int) → (List Int) → Int → qS ((List Int) × Int)
  | 0, _, _, _ => .fail
  | k + 1, LG, LH, LJ =>
    cond (decide (LJ < (LF.length : Int)))
      (
      chk (inb LJ LF.length) <|
      lt ((rd LF LJ)) fun (LI : Int) =>
      cond (decide (LI > (0 : Int)))
        (
        chk (inb LI 16) <|
        chk (inb LJ LH.length) <|
        lt (LH.set (Int.toNat LJ) (rd LG LI)) fun (LK : (List Int)) =>
        lt (LG.set (Int.toNat LI) (qh ((rd LG LI) + (1 : Int)))) fun (LL : (List Int)) =>
        yb.l1 K LF k LL LK (qh (LJ + (1 : Int))))
        (
        yb.l1 K LF k LG LH (qh (LJ + (1 : Int)))))
      (
      .ok (LH, (0 : Int)))
def yb.m (K : Nat) (LF : List Int) : qS ((List Int) × Int) :=
  (xu.m K LF).bind fun LG =>
  cond (LG != (0 : Int))
    (
    .ok (([] : List Int), LG))
    (
    (xi.m K LF).bind fun (LI, LK) =>
    (zJ.m K LI).bind fun LJ =>
    chk (decide (0 ≤ (LF.length : Int)) && room (Int.toNat (LF.length : Int)) 8) <|
    lt (List.replicate (Int.toNat (LF.length : Int)) (0 : Int)) fun (LH : (List Int)) =>
    yb.l1 K LF K LJ LH (0 : Int))
def yh.m (K : Nat) (LF : List Int) : qS (List Int) :=
  (yb.m K LF).bind fun (LG, LH) =>
  .ok LG
def zb.j4 (K : Nat) (LH : (List Int)) (LI : (List Int)) : qS ((List Int) × (List Int) × (List Int) × (List Int)) :=
  (yh.m K LH).bind fun LF =>
  (yh.m K LI).bind fun LG =>
  .ok (LH, LF, LI, LG)
def zb.l3 (K : Nat) (LG : (List Int)) (LH : (List Int)) : Nat → (List Int) → Int → qS ((List Int) × (List Int) × (List Int) × (List Int))
  | 0, _, _ => .fail
  | k + 1, LI, LF =>
    cond (decide (LF < (LH.length : Int)))
      (
      chk (inb LF LI.length) <|
      lt (LI.set (Int.toNat LF) (5 : Int)) fun (LJ : (List Int)) =>
      zb.l3 K LG LH k LJ (qh (LF + (1 : Int))))
      (
      zb.j4 K LG LI)
def zb.j2 (K : Nat)  (LG : (List Int)) : qS ((List Int) × (List Int) × (List Int) × (List Int)) :=
  chk (decide (0 ≤ (32 : Int)) && room (Int.toNat (32 : Int)) 8) <|
  lt (List.replicate (Int.toNat (32 : Int)) (0 : Int)) fun (LF : (List Int)) =>
  zb.l3 K LG LF K LF (0 : Int)
def zb.l1 (K : Nat) (LH : (List Int)) : Nat → (List Int) → Int → qS ((List Int) × (List Int) × (List Int) × (List Int))
  | 0, _, _ => .fail
  | k + 1, LG, LF =>
    cond (decide (LF < (LH.length : Int)))
      (
      lt (((decide (LF < (144 : Int))) || (decide (LF ≥ (280 : Int))))) fun (LL : Bool) =>
      cond LL
        (
        chk (inb LF LG.length) <|
        lt (LG.set (Int.toNat LF) (8 : Int)) fun (LI : (List Int)) =>
        zb.l1 K LH k LI (qh (LF + (1 : Int))))
        (
        lt ((decide (LF < (256 : Int)))) fun (LM : Bool) =>
        cond LM
          (
          chk (inb LF LG.length) <|
          lt (LG.set (Int.toNat LF) (9 : Int)) fun (LJ : (List Int)) =>
          zb.l1 K LH k LJ (qh (LF + (1 : Int))))
          (
          chk (inb LF LG.length) <|
          lt (LG.set (Int.toNat LF) (7 : Int)) fun (LK : (List Int)) =>
          zb.l1 K LH k LK (qh (LF + (1 : Int))))))
      (
      zb.j2 K LG)
def zb.m (K : Nat) : qS ((List Int) × (List Int) × (List Int) × (List Int)) :=
  chk (decide (0 ≤ (288 : Int)) && room (Int.toNat (288 : Int)) 8) <|
  lt (List.replicate (Int.toNat (288 : Int)) (0 : Int)) fun (LF : (List Int)) =>
  zb.l1 K LF K LF (0 : Int)
def qq.j2 (K : Nat) (g1 : Int → (List Int) → Int → Int → qS (Int × Int × (List Int))) (LF : Int) (LJ : Int) (LI : Int) (LH : (List Int)) : qS (Int × Int × (List Int)) :=
  lt ((if LI < (qh ((8 : Int) - (xX .i64 LF (7 : Int)))) then LI else (qh ((8 : Int) - (xX .i64 LF (7 : Int)))))) fun (LG : Int) =>
  chk (inb (yD .i64 LF (8 : Int)) LH.length) <|
  chk (decide (0 ≤ LG)) <|
  chk (decide (0 ≤ (xX .i64 LF (7 : Int)))) <|
  lt (LH.set (Int.toNat (yD .i64 LF (8 : Int))) (Zv .u8 (rd LH (yD .i64 LF (8 : Int))) (xf .u8 (wr .u8 (xX .u32 LJ (wr .u32 ((xf .u32 (1 : Int) LG) - (1 : Int))))) (xX .i64 LF (7 : Int))))) fun (LK : (List Int)) =>
  lt ((xF .u32 LJ LG)) fun (LM : Int) =>
  lt ((qh (LI - LG))) fun (LL : Int) =>
  g1 (qh (LF + LG)) LK LM LL
def qq.l1 (K : Nat)  : Nat → Int → (List Int) → Int → Int → qS (Int × Int × (List Int))
  | 0, _, _, _, _ => .fail
  | k + 1, LG, LF, LI, LH =>
    cond (decide (LH > (0 : Int)))
      (
      cond ((xX .i64 LG (7 : Int)) == (0 : Int))
        (
        chk (room (LF.length + ([(0 : Int)] : List Int).length) 1) <|
        lt (LF ++ ([(0 : Int)] : List Int)) fun (LJ : (List Int)) =>
        qq.j2 K (qq.l1 K k) LG LI LH LJ)
        (
        qq.j2 K (qq.l1 K k) LG LI LH LF))
      (
      .ok ((0 : Int), LG, LF))
def qq.m (K : Nat) (LG : qs) (LH : Int) (LF : Int) : qS (Int × Int × (List Int)) :=
  chk (imp false ((decide (LF < (0 : Int))) || (decide (LF > (32 : Int)))) (decide (0 ≤ LF))) <|
  cond (((decide (LF < (0 : Int))) || (decide (LF > (32 : Int)))) || (decide ((xF .u64 (wr .u64 LH) LF) > (0 : Int))))
    (
    .ok ((1 : Int), LG.Writer_.place_.at_, LG.Writer_.bytes_))
    (
    qq.l1 K K LG.Writer_.place_.at_ LG.Writer_.bytes_ LH LF)
def zK.l1 (K : Nat) (LF : qs) (LK : Int) : Nat → Int → (List Int) → Int → qS (Int × (List Int))
  | 0, _, _, _ => .fail
  | k + 1, LH, LG, LJ =>
    cond (decide (LJ ≥ (0 : Int)))
      (
      chk (inb LK LF.literals_.codes_.length) <|
      chk (decide (0 ≤ LJ)) <|
      (qq.m K (qs.mk (qW.mk (qt.mk LH) LG) LF.literals_ LF.distances_) (wr .u32 (xX .i64 (xF .i64 (rd LF.literals_.codes_ LK) LJ) (1 : Int))) (1 : Int)).bind fun (LN, LL, LI) =>
      lt ((qh (LJ - (1 : Int)))) fun (LM : Int) =>
      zK.l1 K LF LK k LL LI LM)
      (
      .ok (LH, LG))
def zK.m (K : Nat) (LF : qs) (LI : qw) (LG : Int) : qS (Int × (List Int)) :=
  chk (inb LG LF.literals_.lengths_.length) <|
  lt ((qh ((rd LF.literals_.lengths_ LG) - (1 : Int)))) fun (LH : Int) =>
  zK.l1 K LF LG K LF.Writer_.place_.at_ LF.Writer_.bytes_ LH
def z6.j2 (K : Nat) (LI : Int) (LF : Int) (LG : Int) (LH : Int) : qS (Int × Int × Int) :=
  chk (decide (0 ≤ LF)) <|
  chk (decide (0 ≤ LG)) <|
  .ok ((qh ((xf .i64 LG LF) + LH)), LG, (wr .u32 (qh (LI - (xf .i64 LH LG)))))
def z6.l1 (K : Nat) (LH : Int) (LF : Int) : Nat → Int → Int → qS (Int × Int × Int)
  | 0, _, _ => .fail
  | k + 1, LI, LG =>
    chk (decide (0 ≤ LF)) <|
    cond (decide (LG ≥ (xf .i64 (2 : Int) LF)))
      (
      lt ((xF .i64 LG (1 : Int))) fun (LJ : Int) =>
      lt ((qh (LI + (1 : Int)))) fun (LK : Int) =>
      z6.l1 K LH LF k LK LJ)
      (
      z6.j2 K LH LF LI LG)
def z6.m (K : Nat) (LG : Int) (LF : Int) : qS (Int × Int × Int) :=
  z6.l1 K LG LF K (0 : Int) LG
def yP.m (K : Nat) (LI : Int) : qS (Int × Int × Int) :=
  cond (LI == (258 : Int))
    (
    .ok ((285 : Int), (0 : Int), (0 : Int)))
    (
    (z6.m K (qh (LI - (3 : Int))) (2 : Int)).bind fun (LF, LG, LH) =>
    .ok ((qh (LF + (257 : Int))), LG, LH))
def yf.m (K : Nat) (LF : qs) (LL : qw) (LI : xV) : qS (Int × (List Int)) :=
  (zK.m K LF LF.literals_ LI.symbol_).bind fun (LJ, LG) =>
  (qq.m K (qs.mk (qW.mk (qt.mk LJ) LG) LF.literals_ LF.distances_) LI.more_ LI.bits_).bind fun (LM, LK, LH) =>
  .ok (LK, LH)
def yx.m (K : Nat) (LI : Int) : qS (Int × Int × Int) :=
  (z6.m K (qh (LI - (1 : Int))) (1 : Int)).bind fun (LF, LG, LH) =>
  .ok (LF, LG, LH)
def z2.l1 (K : Nat) (LG : qs) (LL : Int) : Nat → Int → (List Int) → Int → qS (Int × (List Int))
  | 0, _, _, _ => .fail
  | k + 1, LH, LF, LI =>
    cond (decide (LI ≥ (0 : Int)))
      (
      chk (inb LL LG.distances_.codes_.length) <|
      chk (decide (0 ≤ LI)) <|
      (qq.m K (qs.mk (qW.mk (qt.mk LH) LF) LG.literals_ LG.distances_) (wr .u32 (xX .i64 (xF .i64 (rd LG.distances_.codes_ LL) LI) (1 : Int))) (1 : Int)).bind fun (LN, LK, LJ) =>
      lt ((qh (LI - (1 : Int)))) fun (LM : Int) =>
      z2.l1 K LG LL k LK LJ LM)
      (
      .ok (LH, LF))
def z2.m (K : Nat) (LF : qs) (LI : qw) (LG : Int) : qS (Int × (List Int)) :=
  chk (inb LG LF.distances_.lengths_.length) <|
  lt ((qh ((rd LF.distances_.lengths_ LG) - (1 : Int)))) fun (LH : Int) =>
  z2.l1 K LF LG K LF.Writer_.place_.at_ LF.Writer_.bytes_ LH
def yg.m (K : Nat) (LF : qs) (LL : qw) (LK : xV) : qS (Int × (List Int)) :=
  (z2.m K LF LF.distances_ LK.symbol_).bind fun (LI, LG) =>
  (qq.m K (qs.mk (qW.mk (qt.mk LI) LG) LF.literals_ LF.distances_) LK.more_ LK.bits_).bind fun (LM, LJ, LH) =>
  .ok (LJ, LH)
def zh.j2 (K : Nat) (LH : qs) (LI : Int) (LF : (List Int)) : qS (Int × (List Int)) :=
  (zK.m K (qs.mk (qW.mk (qt.mk LI) LF) LH.literals_ LH.distances_) LH.literals_ (256 : Int)).bind fun (LJ, LG) =>
  .ok (LJ, LG)
def zh.l1 (K : Nat) (LF : qs) (LH : List qB) : Nat → Int → (List Int) → Int → qS (Int × (List Int))
  | 0, _, _, _ => .fail
  | k + 1, LJ, LG, LI =>
    cond (decide (LI < (LH.length : Int)))
      (
      chk (inb LI LH.length) <|
      cond ((rd LH LI).Dist_ == (0 : Int))
        (
        (zK.m K (qs.mk (qW.mk (qt.mk LJ) LG) LF.literals_ LF.distances_) LF.literals_ (wr .i64 (rd LH LI).Lit_)).bind fun (LT, LM) =>
        zh.l1 K LF LH k LT LM (qh (LI + (1 : Int))))
        (
        (yP.m K ((rd LH LI).Len_)).bind fun (LK, LP, LQ) =>
        (yf.m K (qs.mk (qW.mk (qt.mk LJ) LG) LF.literals_ LF.distances_) LF.literals_ (xV.mk LK LP LQ)).bind fun (LU, LN) =>
        (yx.m K ((rd LH LI).Dist_)).bind fun (LL, LR, LS) =>
        (yg.m K (qs.mk (qW.mk (qt.mk LU) LN) LF.literals_ LF.distances_) LF.distances_ (xV.mk LL LR LS)).bind fun (LV, LO) =>
        zh.l1 K LF LH k LV LO (qh (LI + (1 : Int)))))
      (
      zh.j2 K LF LJ LG)
def zh.m (K : Nat) (LF : qs) (LG : List qB) : qS (Int × (List Int)) :=
  zh.l1 K LF LG K LF.Writer_.place_.at_ LF.Writer_.bytes_ (0 : Int)
def zY.m (K : Nat) (LF : qs) : qS (List UInt8) :=
  lt ((LF.Writer_.bytes_.map QU)) fun (LG : List UInt8) =>
  .ok LG
def yI.m (K : Nat) (l_7 : List qB) : qS ((List UInt8) × Int) :=
  (jk.m K l_7).bind fun LO =>
  cond (!LO)
    (
    .ok (([] : List UInt8), (1 : Int)))
    (
    (zb.m K).bind fun (LF, LH, LG, LI) =>
    (qq.m K (qs.mk (qW.mk (qt.mk (0 : Int)) ([] : List Int)) (qw.mk LF LH) (qw.mk LG LI)) (3 : Int) (3 : Int)).bind fun (LP, LM, LK) =>
    (zh.m K (qs.mk (qW.mk (qt.mk LM) LK) (qw.mk LF LH) (qw.mk LG LI)) l_7).bind fun (LL, LJ) =>
    (zY.m K (qs.mk (qW.mk (qt.mk LL) LJ) (qw.mk LF LH) (qw.mk LG LI))).bind fun LN =>
    .ok (LN, (0 : Int)))
def jJ.m (K : Nat) (LF : Int) : qS Bool :=
  lt (((decide (LF < (0 : Int))) || (decide (LF > (1099511627776 : Int))))) fun (LG : Bool) =>
  .ok LG
def zB.l1 (K : Nat) (LG : List Int) : Nat → Int → qS Int
  | 0, _ => .fail
  | k + 1, LF =>
    cond (decide (LF < (LG.length : Int)))
      (
      chk (inb LF LG.length) <|
      (jJ.m K (rd LG LF)).bind fun LH =>
      cond LH
        (
        .ok LF)
        (
        zB.l1 K LG k (qh (LF + (1 : Int)))))
      (
      .ok (-1 : Int))
def zB.m (K : Nat) (LF : List Int) : qS Int :=
  zB.l1 K LF K (0 : Int)
def xE.m (K : Nat) (LF : List Int) : qS Bool :=
  (zB.m K LF).bind fun LG =>
  lt ((decide (LG ≥ (0 : Int)))) fun (LH : Bool) =>
  .ok LH
def jd.m (K : Nat) (LF : Int) : qS Bool :=
  lt ((LF != LF)) fun (LG : Bool) =>
  .ok LG
def yy.m (K : Nat) (LF : Int) (LG : Int) : qS Int :=
  (jd.m K LF).bind fun LI =>
  (jd.m K LG).bind fun LH =>
  cond LI
    (
    cond LH
      (
      .ok (0 : Int))
      (
      .ok (-1 : Int)))
    (
    cond LH
      (
      .ok (1 : Int))
      (
      cond (decide (LF < LG))
        (
        .ok (-1 : Int))
        (
        cond (decide (LF > LG))
          (
          .ok (1 : Int))
          (
          .ok (0 : Int)))))
def yk.m (K : Nat) (LF : qb) (LG : qb) : qS Int :=
  (yy.m K LF.often_ LG.often_).bind fun LH =>
  .ok LH
def qd.j3 (K : Nat) (g1 : (List qb) → Int → qS (List qb)) (g2 : (List qb) → Int → qS (List qb)) (LJ : Int) (LF : (List qb)) (LG : Int) (LK : Bool) : qS (List qb) :=
  cond LK
    (
    chk (inb (qh (LG - (1 : Int))) LF.length) <|
    chk (inb LG LF.length) <|
    lt (LF.set (Int.toNat LG) (qb.mk ((rd LF (qh (LG - (1 : Int)))).often_) ((rd LF (qh (LG - (1 : Int)))).symbols_))) fun (LH : (List qb)) =>
    chk (inb (qh (LG - (1 : Int))) LH.length) <|
    lt (LH.set (Int.toNat (qh (LG - (1 : Int)))) (qb.mk ((rd LF LG).often_) ((rd LF LG).symbols_))) fun (LI : (List qb)) =>
    lt ((qh (LG - (1 : Int)))) fun (LL : Int) =>
    g2 LI LL)
    (
    lt ((qh (LJ + (1 : Int)))) fun (LM : Int) =>
    g1 LF LM)
def qd.l2 (K : Nat) (g1 : (List qb) → Int → qS (List qb)) (LH : Int) (LI : Int) : Nat → (List qb) → Int → qS (List qb)
  | 0, _, _ => .fail
  | k + 1, LF, LG =>
    cond (decide (LG > LH))
      (
      chk (inb LG LF.length) <|
      chk (inb (qh (LG - (1 : Int))) LF.length) <|
      (yk.m K (qb.mk ((rd LF LG).often_) ((rd LF LG).symbols_)) (qb.mk ((rd LF (qh (LG - (1 : Int)))).often_) ((rd LF (qh (LG - (1 : Int)))).symbols_))).bind fun LJ =>
      qd.j3 K (g1) (qd.l2 K g1 LH LI k) LI LF LG (decide (LJ < (0 : Int))))
      (
      qd.j3 K (g1) (qd.l2 K g1 LH LI k) LI LF LG false)
def qd.l1 (K : Nat) (LG : Int) (LH : Int) : Nat → (List qb) → Int → qS (List qb)
  | 0, _, _ => .fail
  | k + 1, LF, LI =>
    cond (decide (LI < LH))
      (
      qd.l2 K (qd.l1 K LG LH k) LG LI K LF LI)
      (
      .ok LF)
def qd.m (K : Nat) (LF : List qb) (LG : Int) (LH : Int) : qS (List qb) :=
  lt ((qh (LG + (1 : Int)))) fun (LI : Int) =>
  qd.l1 K LG LH K LF LI
def qM.l1 (K : Nat) (LI : Int) (LH : Int) (LJ : Int) : Nat → (List qb) → Int → qS (List qb)
  | 0, _, _ => .fail
  | k + 1, LF, LG =>
    cond (decide (LG < LJ))
      (
      chk (inb (qh (LH + LG)) LF.length) <|
      chk (inb (qh (LI + LG)) LF.length) <|
      lt (LF.set (Int.toNat (qh (LI + LG))) (qb.mk ((rd LF (qh (LH + LG))).often_) ((rd LF (qh (LH + LG))).symbols_))) fun (LK : (List qb)) =>
      chk (inb (qh (LH + LG)) LK.length) <|
      lt (LK.set (Int.toNat (qh (LH + LG))) (qb.mk ((rd LF (qh (LI + LG))).often_) ((rd LF (qh (LI + LG))).symbols_))) fun (LL : (List qb)) =>
      lt ((qh (LG + (1 : Int)))) fun (LM : Int) =>
      qM.l1 K LI LH LJ k LL LM)
      (
      .ok LF)
def qM.m (K : Nat) (LF : List qb) (LG : Int) (LH : Int) (LI : Int) : qS (List qb) :=
  qM.l1 K LG LH LI K LF (0 : Int)
def qz.j2 (K : Nat) (LH : Int) (LF : (List qb)) (LI : Int) : qS (List qb) :=
  (qM.m K LF (qh (LH - LI)) LH LI).bind fun LG =>
  .ok LG
def qz.l1 (K : Nat) (LG : Int) : Nat → (List qb) → Int → Int → qS (List qb)
  | 0, _, _, _ => .fail
  | k + 1, LH, LF, LI =>
    cond (LF != LI)
      (
      cond (decide (LF > LI))
        (
        (qM.m K LH (qh (LG - LF)) LG LI).bind fun LJ =>
        lt ((qh (LF - LI))) fun (LL : Int) =>
        qz.l1 K LG k LJ LL LI)
        (
        (qM.m K LH (qh (LG - LF)) (qh ((qh (LG + LI)) - LF)) LF).bind fun LK =>
        lt ((qh (LI - LF))) fun (LM : Int) =>
        qz.l1 K LG k LK LF LM))
      (
      qz.j2 K LG LH LF)
def qz.m (K : Nat) (LF : List qb) (LH : Int) (LG : Int) (LI : Int) : qS (List qb) :=
  lt ((qh (LG - LH))) fun (LJ : Int) =>
  lt ((qh (LI - LG))) fun (LK : Int) =>
  qz.l1 K LG K LF LJ LK
def qa.l3 (K : Nat) (rc : (List qb) → Int → Int → Int → qS (List qb)) (LI : Int) : Nat → (List qb) → Int → qS (List qb)
  | 0, _, _ => .fail
  | k + 1, LF, LG =>
    cond (decide (LG < (qh (LI - (1 : Int)))))
      (
      chk (inb (qh (LG + (1 : Int))) LF.length) <|
      chk (inb LG LF.length) <|
      lt (LF.set (Int.toNat LG) (qb.mk ((rd LF (qh (LG + (1 : Int)))).often_) ((rd LF (qh (LG + (1 : Int)))).symbols_))) fun (LH : (List qb)) =>
      chk (inb (qh (LG + (1 : Int))) LH.length) <|
      lt (LH.set (Int.toNat (qh (LG + (1 : Int)))) (qb.mk ((rd LF LG).often_) ((rd LF LG).symbols_))) fun (LJ : (List qb)) =>
      lt ((qh (LG + (1 : Int)))) fun (LK : Int) =>
      qa.l3 K rc LI k LJ LK)
      (
      .ok LF)
def qa.j2 (K : Nat) (rc : (List qb) → Int → Int → Int → qS (List qb)) (LF : List qb) (LG : Int) (LH : Int) : qS (List qb) :=
  qa.l3 K rc LH K LF LG
def qa.l1 (K : Nat) (rc : (List qb) → Int → Int → Int → qS (List qb)) (LF : List qb) (LG : Int) : Nat → Int → Int → qS (List qb)
  | 0, _, _ => .fail
  | k + 1, LI, LJ =>
    cond (decide (LI < LJ))
      (
      lt ((wr .i64 (xF .u64 (wr .u64 (qh (LI + LJ))) (1 : Int)))) fun (LH : Int) =>
      chk (inb LH LF.length) <|
      chk (inb LG LF.length) <|
      (yk.m K (qb.mk ((rd LF LH).often_) ((rd LF LH).symbols_)) (qb.mk ((rd LF LG).often_) ((rd LF LG).symbols_))).bind fun LK =>
      cond (decide (LK < (0 : Int)))
        (
        lt ((qh (LH + (1 : Int)))) fun (LL : Int) =>
        qa.l1 K rc LF LG k LL LJ)
        (
        qa.l1 K rc LF LG k LI LH))
      (
      qa.j2 K rc LF LG LI)
def qa.l7 (K : Nat) (rc : (List qb) → Int → Int → Int → qS (List qb)) (LI : Int) : Nat → (List qb) → Int → qS (List qb)
  | 0, _, _ => .fail
  | k + 1, LF, LG =>
    cond (decide (LG > LI))
      (
      chk (inb (qh (LG - (1 : Int))) LF.length) <|
      chk (inb LG LF.length) <|
      lt (LF.set (Int.toNat LG) (qb.mk ((rd LF (qh (LG - (1 : Int)))).often_) ((rd LF (qh (LG - (1 : Int)))).symbols_))) fun (LH : (List qb)) =>
      chk (inb (qh (LG - (1 : Int))) LH.length) <|
      lt (LH.set (Int.toNat (qh (LG - (1 : Int)))) (qb.mk ((rd LF LG).often_) ((rd LF LG).symbols_))) fun (LJ : (List qb)) =>
      lt ((qh (LG - (1 : Int)))) fun (LK : Int) =>
      qa.l7 K rc LI k LJ LK)
      (
      .ok LF)
def qa.j6 (K : Nat) (rc : (List qb) → Int → Int → Int → qS (List qb)) (LF : List qb) (LG : Int) (LH : Int) : qS (List qb) :=
  qa.l7 K rc LH K LF LG
def qa.l5 (K : Nat) (rc : (List qb) → Int → Int → Int → qS (List qb)) (LF : List qb) (LG : Int) : Nat → Int → Int → qS (List qb)
  | 0, _, _ => .fail
  | k + 1, LI, LJ =>
    cond (decide (LI < LJ))
      (
      lt ((wr .i64 (xF .u64 (wr .u64 (qh (LI + LJ))) (1 : Int)))) fun (LH : Int) =>
      chk (inb LG LF.length) <|
      chk (inb LH LF.length) <|
      (yk.m K (qb.mk ((rd LF LG).often_) ((rd LF LG).symbols_)) (qb.mk ((rd LF LH).often_) ((rd LF LH).symbols_))).bind fun LK =>
      cond (!(decide (LK < (0 : Int))))
        (
        lt ((qh (LH + (1 : Int)))) fun (LL : Int) =>
        qa.l5 K rc LF LG k LL LJ)
        (
        qa.l5 K rc LF LG k LI LH))
      (
      qa.j6 K rc LF LG LI)
def qa.j13 (K : Nat) (rc : (List qb) → Int → Int → Int → qS (List qb)) (LI : Int) (LH : Int) (LF : Int) (LG : (List qb)) : qS (List qb) :=
  cond ((decide (LH < LF)) && (decide (LF < LI)))
    (
    (rc LG LH LF LI).bind fun LJ =>
    .ok LJ)
    (
    .ok LG)
def qa.j12 (K : Nat) (rc : (List qb) → Int → Int → Int → qS (List qb)) (LJ : Int) (LK : Int) (LG : Int) (LF : Int) (LH : Int) (LI : (List qb)) : qS (List qb) :=
  cond ((decide (LJ < LF)) && (decide (LF < LG)))
    (
    (rc LI LJ LF LG).bind fun LL =>
    qa.j13 K rc LK LG LH LL)
    (
    qa.j13 K rc LK LG LH LI)
def qa.j11 (K : Nat) (rc : (List qb) → Int → Int → Int → qS (List qb)) (LH : List qb) (LJ : Int) (LK : Int) (LL : Int) (LI : Int) (LN : Int) (LF : Int) : qS (List qb) :=
  lt ((qh (LN - LF))) fun (LG : Int) =>
  cond ((decide (LF < LK)) && (decide (LK < LG)))
    (
    (qz.m K LH LF LK LG).bind fun LM =>
    qa.j12 K rc LJ LL LI LF LG LM)
    (
    qa.j12 K rc LJ LL LI LF LG LH)
def qa.l10 (K : Nat) (rc : (List qb) → Int → Int → Int → qS (List qb)) (LF : List qb) (LK : Int) (LO : Int) (LL : Int) (LI : Int) (LM : Int) (LJ : Int) : Nat → Int → Int → qS (List qb)
  | 0, _, _ => .fail
  | k + 1, LH, LP =>
    cond (decide (LH < LP))
      (
      lt ((wr .i64 (xF .u64 (wr .u64 (qh (LH + LP))) (1 : Int)))) fun (LG : Int) =>
      chk (inb (qh (LJ - LG)) LF.length) <|
      chk (inb LG LF.length) <|
      (yk.m K (qb.mk ((rd LF (qh (LJ - LG))).often_) ((rd LF (qh (LJ - LG))).symbols_)) (qb.mk ((rd LF LG).often_) ((rd LF LG).symbols_))).bind fun LQ =>
      cond (!(decide (LQ < (0 : Int))))
        (
        lt ((qh (LG + (1 : Int)))) fun (LN : Int) =>
        qa.l10 K rc LF LK LO LL LI LM LJ k LN LP)
        (
        qa.l10 K rc LF LK LO LL LI LM LJ k LH LG))
      (
      qa.j11 K rc LF LK LO LL LI LM LH)
def qa.j9 (K : Nat) (rc : (List qb) → Int → Int → Int → qS (List qb)) (LG : List qb) (LJ : Int) (LL : Int) (LK : Int) (LI : Int) (LH : Int) (LF : Int) (LM : Int) : qS (List qb) :=
  lt ((qh (LH - (1 : Int)))) fun (LN : Int) =>
  qa.l10 K rc LG LJ LL LK LI LH LN K LF LM
def qa.j8 (K : Nat) (rc : (List qb) → Int → Int → Int → qS (List qb)) (LI : List qb) (LG : Int) (LJ : Int) (LH : Int) : qS (List qb) :=
  lt ((wr .i64 (xF .u64 (wr .u64 (qh (LG + LH))) (1 : Int)))) fun (LF : Int) =>
  lt ((qh (LF + LJ))) fun (LK : Int) =>
  cond (decide (LJ > LF))
    (
    lt ((qh (LK - LH))) fun (LL : Int) =>
    qa.j9 K rc LI LG LJ LH LF LK LL LF)
    (
    qa.j9 K rc LI LG LJ LH LF LK LG LJ)
def qa.j4 (K : Nat) (rc : (List qb) → Int → Int → Int → qS (List qb)) (LF : List qb) (LH : Int) (LG : Int) (LI : Int) : qS (List qb) :=
  cond ((qh (LI - LG)) == (1 : Int))
    (
    qa.l5 K rc LF LG K LH LG)
    (
    qa.j8 K rc LF LH LG LI)
def qa.b (K : Nat) (rc : (List qb) → Int → Int → Int → qS (List qb)) (LF : List qb) (LG : Int) (LH : Int) (LI : Int) : qS (List qb) :=
  cond ((qh (LH - LG)) == (1 : Int))
    (
    qa.l1 K rc LF LG K LH LI)
    (
    qa.j4 K rc LF LG LH LI)
def qa.r (K : Nat) : Nat → (List qb) → Int → Int → Int → qS (List qb)
  | 0 => fun _ _ _ _ => .fail
  | d + 1 => qa.b K (qa.r K d)
def qa.m (K : Nat) (LF : List qb) (LG : Int) (LI : Int) (LH : Int) : qS (List qb) := qa.r K K LF LG LI LH
def qe.j5 (K : Nat) (g3 : (List qb) → Int → qS (List qb)) (LJ : Int) (LF : Int) (LI : (List qb)) (LK : Int) : qS (List qb) :=
  lt ((qh (LK + LF))) fun (LM : Int) =>
  cond (decide (LM < LJ))
    (
    (qa.m K LI LK LM LJ).bind fun LL =>
    lt ((qh (LF * (2 : Int)))) fun (LG : Int) =>
    g3 LL LG)
    (
    lt ((qh (LF * (2 : Int)))) fun (LH : Int) =>
    g3 LI LH)
def qe.l4 (K : Nat) (g3 : (List qb) → Int → qS (List qb)) (LI : Int) (LF : Int) : Nat → (List qb) → Int → Int → qS (List qb)
  | 0, _, _, _ => .fail
  | k + 1, LH, LJ, LG =>
    cond (decide (LG ≤ LI))
      (
      (qa.m K LH LJ (qh (LJ + LF)) LG).bind fun LK =>
      lt ((qh (LG + (qh ((2 : Int) * LF))))) fun (LL : Int) =>
      qe.l4 K g3 LI LF k LK LG LL)
      (
      qe.j5 K (g3) LI LF LH LJ)
def qe.l3 (K : Nat) (LH : Int) : Nat → (List qb) → Int → qS (List qb)
  | 0, _, _ => .fail
  | k + 1, LG, LF =>
    cond (decide (LF < LH))
      (
      lt ((qh ((2 : Int) * LF))) fun (LI : Int) =>
      qe.l4 K (qe.l3 K LH k) LH LF K LG (0 : Int) LI)
      (
      .ok LG)
def qe.j2 (K : Nat) (LF : Int) (LG : (List qb)) (LI : Int) : qS (List qb) :=
  (qd.m K LG LI LF).bind fun LH =>
  qe.l3 K LF K LH (20 : Int)
def qe.l1 (K : Nat) (LH : Int) : Nat → (List qb) → Int → Int → qS (List qb)
  | 0, _, _, _ => .fail
  | k + 1, LG, LI, LF =>
    cond (decide (LF ≤ LH))
      (
      (qd.m K LG LI LF).bind fun LJ =>
      lt ((qh (LF + (20 : Int)))) fun (LK : Int) =>
      qe.l1 K LH k LJ LF LK)
      (
      qe.j2 K LH LG LI)
def qe.m (K : Nat) (LF : List qb) (LG : Int) : qS (List qb) :=
  qe.l1 K LG K LF (0 : Int) (20 : Int)
def zi.m (K : Nat) (LG : List qb) : qS (List qb) :=
  (qe.m K LG (LG.length : Int)).bind fun LF =>
  .ok LF
def xN.m (K : Nat) (LG : Int) : qS Unit :=
  cond (decide (LG < (0 : Int)))
    (
    .pan (.iface QB (xS ([99, 97, 110, 110, 111, 116, 32, 98, 101, 32, 110, 101, 103, 97, 116, 105, 118, 101] : List UInt8))))
    (
    lt ((qh (LG - (qh ((0 : Int) - (0 : Int)))))) fun (LF : Int) =>
    cond (decide (LF > (0 : Int)))
      (
      chk (decide ((0 : Int) < LF) && room (Int.toNat LF) 8) <|
      .ok ())
      (
      .ok ()))
def qX.l3 (K : Nat) (LF : List (List Int)) : Nat → (List Int) → Int → qS (List Int)
  | 0, _, _ => .fail
  | k + 1, LG, LH =>
    cond (decide (LH < (LF.length : Int)))
      (
      chk (inb LH LF.length) <|
      chk (room (LG.length + (rd LF LH).length) 8) <|
      lt (LG ++ (rd LF LH)) fun (LI : (List Int)) =>
      qX.l3 K LF k LI (qh (LH + (1 : Int))))
      (
      .ok LG)
def qX.j2 (K : Nat) (LF : List (List Int)) (LG : Int) : qS (List Int) :=
  (xN.m K LG).bind fun _ =>
  qX.l3 K LF K ([] : List Int) (0 : Int)
def qX.l1 (K : Nat) (LF : List (List Int)) : Nat → Int → Int → qS (List Int)
  | 0, _, _ => .fail
  | k + 1, LG, LI =>
    cond (decide (LI < (LF.length : Int)))
      (
      chk (inb LI LF.length) <|
      lt ((qh (LG + ((rd LF LI).length : Int)))) fun (LH : Int) =>
      cond (decide (LH < (0 : Int)))
        (
        .pan (.iface QB (xS ([108, 101, 110, 32, 111, 117, 116, 32, 111, 102, 32, 114, 97, 110, 103, 101] : List UInt8))))
        (
        qX.l1 K LF k LH (qh (LI + (1 : Int)))))
      (
      qX.j2 K LF LG)
def qX.m (K : Nat) (LF : List (List Int)) : qS (List Int) :=
  qX.l1 K LF K (0 : Int) (0 : Int)
def xY.l1 (K : Nat) (LF : List qb) : Nat → (List qb) → Int → qS (List qb)
  | 0, _, _ => .fail
  | k + 1, LH, LG =>
    cond (decide ((qh (LG + (1 : Int))) < (LF.length : Int)))
      (
      chk (inb LG LF.length) <|
      chk (inb (qh (LG + (1 : Int))) LF.length) <|
      (qX.m K ([(rd LF LG).symbols_, (rd LF (qh (LG + (1 : Int)))).symbols_] : List (List Int))).bind fun LI =>
      chk (room (LH.length + ([(qb.mk (qh ((rd LF LG).often_ + (rd LF (qh (LG + (1 : Int)))).often_)) LI)] : List qb).length) 32) <|
      lt (LH ++ ([(qb.mk (qh ((rd LF LG).often_ + (rd LF (qh (LG + (1 : Int)))).often_)) LI)] : List qb)) fun (LJ : (List qb)) =>
      lt ((qh (LG + (2 : Int)))) fun (LK : Int) =>
      xY.l1 K LF k LJ LK)
      (
      .ok LH)
def xY.m (K : Nat) (LF : List qb) : qS (List qb) :=
  xY.l1 K LF K ([] : List qb) (0 : Int)
def z1.m (K : Nat) (LG : Int) : qS Unit :=
  cond (decide (LG < (0 : Int)))
    (
    .pan (.iface QB (xS ([99, 97, 110, 110, 111, 116, 32, 98, 101, 32, 110, 101, 103, 97, 116, 105, 118, 101] : List UInt8))))
    (
    lt ((qh (LG - (qh ((0 : Int) - (0 : Int)))))) fun (LF : Int) =>
    cond (decide (LF > (0 : Int)))
      (
      chk (decide ((0 : Int) < LF) && room (Int.toNat LF) 32) <|
      .ok ())
      (
      .ok ()))
def qu.l3 (K : Nat) (LF : List (List qb)) : Nat → (List qb) → Int → qS (List qb)
  | 0, _, _ => .fail
  | k + 1, LG, LH =>
    cond (decide (LH < (LF.length : Int)))
      (
      chk (inb LH LF.length) <|
      chk (room (LG.length + (rd LF LH).length) 32) <|
      lt (LG ++ (rd LF LH)) fun (LI : (List qb)) =>
      qu.l3 K LF k LI (qh (LH + (1 : Int))))
      (
      .ok LG)
def qu.j2 (K : Nat) (LF : List (List qb)) (LG : Int) : qS (List qb) :=
  (z1.m K LG).bind fun _ =>
  qu.l3 K LF K ([] : List qb) (0 : Int)
def qu.l1 (K : Nat) (LF : List (List qb)) : Nat → Int → Int → qS (List qb)
  | 0, _, _ => .fail
  | k + 1, LG, LI =>
    cond (decide (LI < (LF.length : Int)))
      (
      chk (inb LI LF.length) <|
      lt ((qh (LG + ((rd LF LI).length : Int)))) fun (LH : Int) =>
      cond (decide (LH < (0 : Int)))
        (
        .pan (.iface QB (xS ([108, 101, 110, 32, 111, 117, 116, 32, 111, 102, 32, 114, 97, 110, 103, 101] : List UInt8))))
        (
        qu.l1 K LF k LH (qh (LI + (1 : Int)))))
      (
      qu.j2 K LF LG)
def qu.m (K : Nat) (LF : List (List qb)) : qS (List qb) :=
  qu.l1 K LF K (0 : Int) (0 : Int)
def y6.m (K : Nat) (LF : qb) (LG : qb) : qS Int :=
  (yy.m K LF.often_ LG.often_).bind fun LH =>
  .ok LH
def qi.j3 (K : Nat) (g1 : (List qb) → Int → qS (List qb)) (g2 : (List qb) → Int → qS (List qb)) (LJ : Int) (LF : (List qb)) (LG : Int) (LK : Bool) : qS (List qb) :=
  cond LK
    (
    chk (inb (qh (LG - (1 : Int))) LF.length) <|
    chk (inb LG LF.length) <|
    lt (LF.set (Int.toNat LG) (qb.mk ((rd LF (qh (LG - (1 : Int)))).often_) ((rd LF (qh (LG - (1 : Int)))).symbols_))) fun (LH : (List qb)) =>
    chk (inb (qh (LG - (1 : Int))) LH.length) <|
    lt (LH.set (Int.toNat (qh (LG - (1 : Int)))) (qb.mk ((rd LF LG).often_) ((rd LF LG).symbols_))) fun (LI : (List qb)) =>
    lt ((qh (LG - (1 : Int)))) fun (LL : Int) =>
    g2 LI LL)
    (
    lt ((qh (LJ + (1 : Int)))) fun (LM : Int) =>
    g1 LF LM)
def qi.l2 (K : Nat) (g1 : (List qb) → Int → qS (List qb)) (LH : Int) (LI : Int) : Nat → (List qb) → Int → qS (List qb)
  | 0, _, _ => .fail
  | k + 1, LF, LG =>
    cond (decide (LG > LH))
      (
      chk (inb LG LF.length) <|
      chk (inb (qh (LG - (1 : Int))) LF.length) <|
      (y6.m K (qb.mk ((rd LF LG).often_) ((rd LF LG).symbols_)) (qb.mk ((rd LF (qh (LG - (1 : Int)))).often_) ((rd LF (qh (LG - (1 : Int)))).symbols_))).bind fun LJ =>
      qi.j3 K (g1) (qi.l2 K g1 LH LI k) LI LF LG (decide (LJ < (0 : Int))))
      (
      qi.j3 K (g1) (qi.l2 K g1 LH LI k) LI LF LG false)
def qi.l1 (K : Nat) (LG : Int) (LH : Int) : Nat → (List qb) → Int → qS (List qb)
  | 0, _, _ => .fail
  | k + 1, LF, LI =>
    cond (decide (LI < LH))
      (
      qi.l2 K (qi.l1 K LG LH k) LG LI K LF LI)
      (
      .ok LF)
def qi.m (K : Nat) (LF : List qb) (LG : Int) (LH : Int) : qS (List qb) :=
  lt ((qh (LG + (1 : Int)))) fun (LI : Int) =>
  qi.l1 K LG LH K LF LI
def qY.l1 (K : Nat) (LI : Int) (LH : Int) (LJ : Int) : Nat → (List qb) → Int → qS (List qb)
  | 0, _, _ => .fail
  | k + 1, LF, LG =>
    cond (decide (LG < LJ))
      (
      chk (inb (qh (LH + LG)) LF.length) <|
      chk (inb (qh (LI + LG)) LF.length) <|
      lt (LF.set (Int.toNat (qh (LI + LG))) (qb.mk ((rd LF (qh (LH + LG))).often_) ((rd LF (qh (LH + LG))).symbols_))) fun (LK : (List qb)) =>
      chk (inb (qh (LH + LG)) LK.length) <|
      lt (LK.set (Int.toNat (qh (LH + LG))) (qb.mk ((rd LF (qh (LI + LG))).often_) ((rd LF (qh (LI + LG))).symbols_))) fun (LL : (List qb)) =>
      lt ((qh (LG + (1 : Int)))) fun (LM : Int) =>
      qY.l1 K LI LH LJ k LL LM)
      (
      .ok LF)
def qY.m (K : Nat) (LF : List qb) (LG : Int) (LH : Int) (LI : Int) : qS (List qb) :=
  qY.l1 K LG LH LI K LF (0 : Int)
def qQ.j2 (K : Nat) (LH : Int) (LF : (List qb)) (LI : Int) : qS (List qb) :=
  (qY.m K LF (qh (LH - LI)) LH LI).bind fun LG =>
  .ok LG
def qQ.l1 (K : Nat) (LG : Int) : Nat → (List qb) → Int → Int → qS (List qb)
  | 0, _, _, _ => .fail
  | k + 1, LH, LF, LI =>
    cond (LF != LI)
      (
      cond (decide (LF > LI))
        (
        (qY.m K LH (qh (LG - LF)) LG LI).bind fun LJ =>
        lt ((qh (LF - LI))) fun (LL : Int) =>
        qQ.l1 K LG k LJ LL LI)
        (
        (qY.m K LH (qh (LG - LF)) (qh ((qh (LG + LI)) - LF)) LF).bind fun LK =>
        lt ((qh (LI - LF))) fun (LM : Int) =>
        qQ.l1 K LG k LK LF LM))
      (
      qQ.j2 K LG LH LF)
def qQ.m (K : Nat) (LF : List qb) (LH : Int) (LG : Int) (LI : Int) : qS (List qb) :=
  lt ((qh (LG - LH))) fun (LJ : Int) =>
  lt ((qh (LI - LG))) fun (LK : Int) =>
  qQ.l1 K LG K LF LJ LK
def qc.l3 (K : Nat) (rc : (List qb) → Int → Int → Int → qS (List qb)) (LI : Int) : Nat → (List qb) → Int → qS (List qb)
  | 0, _, _ => .fail
  | k + 1, LF, LG =>
    cond (decide (LG < (qh (LI - (1 : Int)))))
      (
      chk (inb (qh (LG + (1 : Int))) LF.length) <|
      chk (inb LG LF.length) <|
      lt (LF.set (Int.toNat LG) (qb.mk ((rd LF (qh (LG + (1 : Int)))).often_) ((rd LF (qh (LG + (1 : Int)))).symbols_))) fun (LH : (List qb)) =>
      chk (inb (qh (LG + (1 : Int))) LH.length) <|
      lt (LH.set (Int.toNat (qh (LG + (1 : Int)))) (qb.mk ((rd LF LG).often_) ((rd LF LG).symbols_))) fun (LJ : (List qb)) =>
      lt ((qh (LG + (1 : Int)))) fun (LK : Int) =>
      qc.l3 K rc LI k LJ LK)
      (
      .ok LF)
def qc.j2 (K : Nat) (rc : (List qb) → Int → Int → Int → qS (List qb)) (LF : List qb) (LG : Int) (LH : Int) : qS (List qb) :=
  qc.l3 K rc LH K LF LG
def qc.l1 (K : Nat) (rc : (List qb) → Int → Int → Int → qS (List qb)) (LF : List qb) (LG : Int) : Nat → Int → Int → qS (List qb)
  | 0, _, _ => .fail
  | k + 1, LI, LJ =>
    cond (decide (LI < LJ))
      (
      lt ((wr .i64 (xF .u64 (wr .u64 (qh (LI + LJ))) (1 : Int)))) fun (LH : Int) =>
      chk (inb LH LF.length) <|
      chk (inb LG LF.length) <|
      (y6.m K (qb.mk ((rd LF LH).often_) ((rd LF LH).symbols_)) (qb.mk ((rd LF LG).often_) ((rd LF LG).symbols_))).bind fun LK =>
      cond (decide (LK < (0 : Int)))
        (
        lt ((qh (LH + (1 : Int)))) fun (LL : Int) =>
        qc.l1 K rc LF LG k LL LJ)
        (
        qc.l1 K rc LF LG k LI LH))
      (
      qc.j2 K rc LF LG LI)
def qc.l7 (K : Nat) (rc : (List qb) → Int → Int → Int → qS (List qb)) (LI : Int) : Nat → (List qb) → Int → qS (List qb)
  | 0, _, _ => .fail
  | k + 1, LF, LG =>
    cond (decide (LG > LI))
      (
      chk (inb (qh (LG - (1 : Int))) LF.length) <|
      chk (inb LG LF.length) <|
      lt (LF.set (Int.toNat LG) (qb.mk ((rd LF (qh (LG - (1 : Int)))).often_) ((rd LF (qh (LG - (1 : Int)))).symbols_))) fun (LH : (List qb)) =>
      chk (inb (qh (LG - (1 : Int))) LH.length) <|
      lt (LH.set (Int.toNat (qh (LG - (1 : Int)))) (qb.mk ((rd LF LG).often_) ((rd LF LG).symbols_))) fun (LJ : (List qb)) =>
      lt ((qh (LG - (1 : Int)))) fun (LK : Int) =>
      qc.l7 K rc LI k LJ LK)
      (
      .ok LF)
def qc.j6 (K : Nat) (rc : (List qb) → Int → Int → Int → qS (List qb)) (LF : List qb) (LG : Int) (LH : Int) : qS (List qb) :=
  qc.l7 K rc LH K LF LG
def qc.l5 (K : Nat) (rc : (List qb) → Int → Int → Int → qS (List qb)) (LF : List qb) (LG : Int) : Nat → Int → Int → qS (List qb)
  | 0, _, _ => .fail
  | k + 1, LI, LJ =>
    cond (decide (LI < LJ))
      (
      lt ((wr .i64 (xF .u64 (wr .u64 (qh (LI + LJ))) (1 : Int)))) fun (LH : Int) =>
      chk (inb LG LF.length) <|
      chk (inb LH LF.length) <|
      (y6.m K (qb.mk ((rd LF LG).often_) ((rd LF LG).symbols_)) (qb.mk ((rd LF LH).often_) ((rd LF LH).symbols_))).bind fun LK =>
      cond (!(decide (LK < (0 : Int))))
        (
        lt ((qh (LH + (1 : Int)))) fun (LL : Int) =>
        qc.l5 K rc LF LG k LL LJ)
        (
        qc.l5 K rc LF LG k LI LH))
      (
      qc.j6 K rc LF LG LI)
def qc.j13 (K : Nat) (rc : (List qb) → Int → Int → Int → qS (List qb)) (LI : Int) (LH : Int) (LF : Int) (LG : (List qb)) : qS (List qb) :=
  cond ((decide (LH < LF)) && (decide (LF < LI)))
    (
    (rc LG LH LF LI).bind fun LJ =>
    .ok LJ)
    (
    .ok LG)
def qc.j12 (K : Nat) (rc : (List qb) → Int → Int → Int → qS (List qb)) (LJ : Int) (LK : Int) (LG : Int) (LF : Int) (LH : Int) (LI : (List qb)) : qS (List qb) :=
  cond ((decide (LJ < LF)) && (decide (LF < LG)))
    (
    (rc LI LJ LF LG).bind fun LL =>
    qc.j13 K rc LK LG LH LL)
    (
    qc.j13 K rc LK LG LH LI)
def qc.j11 (K : Nat) (rc : (List qb) → Int → Int → Int → qS (List qb)) (LH : List qb) (LJ : Int) (LK : Int) (LL : Int) (LI : Int) (LN : Int) (LF : Int) : qS (List qb) :=
  lt ((qh (LN - LF))) fun (LG : Int) =>
  cond ((decide (LF < LK)) && (decide (LK < LG)))
    (
    (qQ.m K LH LF LK LG).bind fun LM =>
    qc.j12 K rc LJ LL LI LF LG LM)
    (
    qc.j12 K rc LJ LL LI LF LG LH)
def qc.l10 (K : Nat) (rc : (List qb) → Int → Int → Int → qS (List qb)) (LF : List qb) (LK : Int) (LO : Int) (LL : Int) (LI : Int) (LM : Int) (LJ : Int) : Nat → Int → Int → qS (List qb)
  | 0, _, _ => .fail
  | k + 1, LH, LP =>
    cond (decide (LH < LP))
      (
      lt ((wr .i64 (xF .u64 (wr .u64 (qh (LH + LP))) (1 : Int)))) fun (LG : Int) =>
      chk (inb (qh (LJ - LG)) LF.length) <|
      chk (inb LG LF.length) <|
      (y6.m K (qb.mk ((rd LF (qh (LJ - LG))).often_) ((rd LF (qh (LJ - LG))).symbols_)) (qb.mk ((rd LF LG).often_) ((rd LF LG).symbols_))).bind fun LQ =>
      cond (!(decide (LQ < (0 : Int))))
        (
        lt ((qh (LG + (1 : Int)))) fun (LN : Int) =>
        qc.l10 K rc LF LK LO LL LI LM LJ k LN LP)
        (
        qc.l10 K rc LF LK LO LL LI LM LJ k LH LG))
      (
      qc.j11 K rc LF LK LO LL LI LM LH)
def qc.j9 (K : Nat) (rc : (List qb) → Int → Int → Int → qS (List qb)) (LG : List qb) (LJ : Int) (LL : Int) (LK : Int) (LI : Int) (LH : Int) (LF : Int) (LM : Int) : qS (List qb) :=
  lt ((qh (LH - (1 : Int)))) fun (LN : Int) =>
  qc.l10 K rc LG LJ LL LK LI LH LN K LF LM
def qc.j8 (K : Nat) (rc : (List qb) → Int → Int → Int → qS (List qb)) (LI : List qb) (LG : Int) (LJ : Int) (LH : Int) : qS (List qb) :=
  lt ((wr .i64 (xF .u64 (wr .u64 (qh (LG + LH))) (1 : Int)))) fun (LF : Int) =>
  lt ((qh (LF + LJ))) fun (LK : Int) =>
  cond (decide (LJ > LF))
    (
    lt ((qh (LK - LH))) fun (LL : Int) =>
    qc.j9 K rc LI LG LJ LH LF LK LL LF)
    (
    qc.j9 K rc LI LG LJ LH LF LK LG LJ)
def qc.j4 (K : Nat) (rc : (List qb) → Int → Int → Int → qS (List qb)) (LF : List qb) (LH : Int) (LG : Int) (LI : Int) : qS (List qb) :=
  cond ((qh (LI - LG)) == (1 : Int))
    (
    qc.l5 K rc LF LG K LH LG)
    (
    qc.j8 K rc LF LH LG LI)
def qc.b (K : Nat) (rc : (List qb) → Int → Int → Int → qS (List qb)) (LF : List qb) (LG : Int) (LH : Int) (LI : Int) : qS (List qb) :=
  cond ((qh (LH - LG)) == (1 : Int))
    (
    qc.l1 K rc LF LG K LH LI)
    (
    qc.j4 K rc LF LG LH LI)
def qc.r (K : Nat) : Nat → (List qb) → Int → Int → Int → qS (List qb)
  | 0 => fun _ _ _ _ => .fail
  | d + 1 => qc.b K (qc.r K d)
def qc.m (K : Nat) (LF : List qb) (LG : Int) (LI : Int) (LH : Int) : qS (List qb) := qc.r K K LF LG LI LH
def qj.j5 (K : Nat) (g3 : (List qb) → Int → qS (List qb)) (LJ : Int) (LF : Int) (LI : (List qb)) (LK : Int) : qS (List qb) :=
  lt ((qh (LK + LF))) fun (LM : Int) =>
  cond (decide (LM < LJ))
    (
    (qc.m K LI LK LM LJ).bind fun LL =>
    lt ((qh (LF * (2 : Int)))) fun (LG : Int) =>
    g3 LL LG)
    (
    lt ((qh (LF * (2 : Int)))) fun (LH : Int) =>
    g3 LI LH)
def qj.l4 (K : Nat) (g3 : (List qb) → Int → qS (List qb)) (LI : Int) (LF : Int) : Nat → (List qb) → Int → Int → qS (List qb)
  | 0, _, _, _ => .fail
  | k + 1, LH, LJ, LG =>
    cond (decide (LG ≤ LI))
      (
      (qc.m K LH LJ (qh (LJ + LF)) LG).bind fun LK =>
      lt ((qh (LG + (qh ((2 : Int) * LF))))) fun (LL : Int) =>
      qj.l4 K g3 LI LF k LK LG LL)
      (
      qj.j5 K (g3) LI LF LH LJ)
def qj.l3 (K : Nat) (LH : Int) : Nat → (List qb) → Int → qS (List qb)
  | 0, _, _ => .fail
  | k + 1, LG, LF =>
    cond (decide (LF < LH))
      (
      lt ((qh ((2 : Int) * LF))) fun (LI : Int) =>
      qj.l4 K (qj.l3 K LH k) LH LF K LG (0 : Int) LI)
      (
      .ok LG)
def qj.j2 (K : Nat) (LF : Int) (LG : (List qb)) (LI : Int) : qS (List qb) :=
  (qi.m K LG LI LF).bind fun LH =>
  qj.l3 K LF K LH (20 : Int)
def qj.l1 (K : Nat) (LH : Int) : Nat → (List qb) → Int → Int → qS (List qb)
  | 0, _, _, _ => .fail
  | k + 1, LG, LI, LF =>
    cond (decide (LF ≤ LH))
      (
      (qi.m K LG LI LF).bind fun LJ =>
      lt ((qh (LF + (20 : Int)))) fun (LK : Int) =>
      qj.l1 K LH k LJ LF LK)
      (
      qj.j2 K LH LG LI)
def qj.m (K : Nat) (LF : List qb) (LG : Int) : qS (List qb) :=
  qj.l1 K LG K LF (0 : Int) (20 : Int)
def zS.m (K : Nat) (LG : List qb) : qS (List qb) :=
  (qj.m K LG (LG.length : Int)).bind fun LF =>
  .ok LF
def yS.m (K : Nat) (LF : List qb) (LG : List qb) : qS (List qb) :=
  (qu.m K ([LF, LG] : List (List qb))).bind fun LH =>
  (zS.m K LH).bind fun LI =>
  .ok LI
def qF.l8 (K : Nat) (g7 : (List Int) → Int → qS ((List Int) × Int)) (LG : (List qb)) (LH : Int) : Nat → (List Int) → Int → qS ((List Int) × Int)
  | 0, _, _ => .fail
  | k + 1, LF, LI =>
    cond (decide (LI < (((rd LG LH).symbols_).length : Int)))
      (
      chk (inb LI ((rd LG LH).symbols_).length) <|
      lt ((rd ((rd LG LH).symbols_) LI)) fun (LJ : Int) =>
      chk (inb LJ LF.length) <|
      lt (LF.set (Int.toNat LJ) (qh ((rd LF LJ) + (1 : Int)))) fun (LK : (List Int)) =>
      qF.l8 K g7 LG LH k LK (qh (LI + (1 : Int))))
      (
      g7 LF (qh (LH + (1 : Int))))
def qF.l7 (K : Nat) (LF : (List qb)) : Nat → (List Int) → Int → qS ((List Int) × Int)
  | 0, _, _ => .fail
  | k + 1, LG, LH =>
    cond (decide (LH < (LF.length : Int)))
      (
      chk (inb LH LF.length) <|
      qF.l8 K (qF.l7 K LF k) LF LH K LG (0 : Int))
      (
      .ok (LG, (0 : Int)))
def qF.j6 (K : Nat) (LG : (List Int)) (LH : (List qb)) (LF : (List qb)) : qS ((List Int) × Int) :=
  chk (subok (0 : Int) (qh ((qh ((2 : Int) * (LH.length : Int))) - (2 : Int))) LF.length) <|
  lt (sub LF (0 : Int) (qh ((qh ((2 : Int) * (LH.length : Int))) - (2 : Int)))) fun (LI : (List qb)) =>
  qF.l7 K LI K LG (0 : Int)
def qF.l5 (K : Nat) (LF : Int) (LG : (List Int)) (LI : (List qb)) : Nat → (List qb) → Int → qS ((List Int) × Int)
  | 0, _, _ => .fail
  | k + 1, LH, LJ =>
    cond (decide (LJ < (qh (LF - (1 : Int)))))
      (
      (xY.m K LH).bind fun LK =>
      (yS.m K LI LK).bind fun LL =>
      qF.l5 K LF LG LI k LL (qh (LJ + (1 : Int))))
      (
      qF.j6 K LG LI LH)
def qF.j4 (K : Nat) (LH : Int) (LF : (List qb)) (LG : (List Int)) : qS ((List Int) × Int) :=
  cond (decide ((LF.length : Int) < (2 : Int)))
    (
    .ok (LG, (0 : Int)))
    (
    (zi.m K LF).bind fun LI =>
    qF.l5 K LH LG LI K LI (0 : Int))
def qF.j3 (K : Nat) (LH : List Int) (LG : Int) (LF : (List qb)) : qS ((List Int) × Int) :=
  chk (decide (0 ≤ LG)) <|
  cond (decide ((LF.length : Int) > (xf .i64 (1 : Int) LG)))
    (
    .ok (([] : List Int), (1 : Int)))
    (
    chk (decide (0 ≤ (LH.length : Int)) && room (Int.toNat (LH.length : Int)) 8) <|
    lt (List.replicate (Int.toNat (LH.length : Int)) (0 : Int)) fun (LI : (List Int)) =>
    cond ((LF.length : Int) == (1 : Int))
      (
      chk (inb (0 : Int) LF.length) <|
      chk (inb (0 : Int) ((rd LF (0 : Int)).symbols_).length) <|
      chk (inb (rd ((rd LF (0 : Int)).symbols_) (0 : Int)) LI.length) <|
      lt (LI.set (Int.toNat (rd ((rd LF (0 : Int)).symbols_) (0 : Int))) (1 : Int)) fun (LJ : (List Int)) =>
      qF.j4 K LG LF LJ)
      (
      qF.j4 K LG LF LI))
def qF.l2 (K : Nat) (LF : List Int) (LH : Int) : Nat → (List qb) → Int → qS ((List Int) × Int)
  | 0, _, _ => .fail
  | k + 1, LG, LI =>
    cond (decide (LI < (LF.length : Int)))
      (
      chk (inb LI LF.length) <|
      lt ((rd LF LI)) fun (LJ : Int) =>
      cond (decide (LJ > (0 : Int)))
        (
        chk (room (LG.length + ([(qb.mk LJ ([LI] : List Int))] : List qb).length) 32) <|
        lt (LG ++ ([(qb.mk LJ ([LI] : List Int))] : List qb)) fun (LK : (List qb)) =>
        qF.l2 K LF LH k LK (qh (LI + (1 : Int))))
        (
        qF.l2 K LF LH k LG (qh (LI + (1 : Int)))))
      (
      qF.j3 K LF LH LG)
def qF.j1 (K : Nat) (LF : List Int) (LG : Int) (LH : Bool) : qS ((List Int) × Int) :=
  cond LH
    (
    .ok (([] : List Int), (1 : Int)))
    (
    qF.l2 K LF LG K ([] : List qb) (0 : Int))
def qF.m (K : Nat) (LF : List Int) (LG : Int) : qS ((List Int) × Int) :=
  cond (((decide (LG < (1 : Int))) || (decide (LG > (15 : Int)))) || (decide ((LF.length : Int) > (320 : Int))))
    (
    qF.j1 K LF LG true)
    (
    (xE.m K LF).bind fun LH =>
    qF.j1 K LF LG LH)
def q7.j4 (K : Nat)  (LF : (List Int)) : qS ((List Int) × (List Int)) :=
  (qF.m K LF (15 : Int)).bind fun (LG, LH) =>
  .ok (LG, LF)
def q7.l3 (K : Nat)  : Nat → (List Int) → Int → Int → qS ((List Int) × (List Int))
  | 0, _, _, _ => .fail
  | k + 1, LF, LH, LG =>
    cond (decide (LH < (2 : Int)))
      (
      chk (inb LG LF.length) <|
      cond ((rd LF LG) == (0 : Int))
        (
        lt (LF.set (Int.toNat LG) (qh ((rd LF LG) + (1 : Int)))) fun (LI : (List Int)) =>
        lt ((qh (LH + (1 : Int)))) fun (LJ : Int) =>
        lt ((qh (LG + (1 : Int)))) fun (LK : Int) =>
        q7.l3 K k LI LJ LK)
        (
        lt ((qh (LG + (1 : Int)))) fun (LL : Int) =>
        q7.l3 K k LF LH LL))
      (
      q7.j4 K LF)
def q7.j2 (K : Nat) (LF : List Int) (LG : Int) : qS ((List Int) × (List Int)) :=
  q7.l3 K K LF LG (0 : Int)
def q7.l1 (K : Nat) (LF : List Int) : Nat → Int → Int → qS ((List Int) × (List Int))
  | 0, _, _ => .fail
  | k + 1, LH, LG =>
    cond (decide (LG < (LF.length : Int)))
      (
      chk (inb LG LF.length) <|
      lt ((rd LF LG)) fun (LI : Int) =>
      lt ((qh (LH + (if (1 : Int) < LI then (1 : Int) else LI)))) fun (LJ : Int) =>
      q7.l1 K LF k LJ (qh (LG + (1 : Int))))
      (
      q7.j2 K LF LH)
def q7.m (K : Nat) (LF : List Int) : qS ((List Int) × (List Int)) :=
  q7.l1 K LF K (0 : Int) (0 : Int)
def qU.j4 (K : Nat) (g1 : (List qm) → Int → qS (List qm)) (LH : List Int) (LF : (List qm)) (LI : Int) (LG : Int) : qS (List qm) :=
  chk (inb LI LH.length) <|
  lt ((((rd LH LI) == (0 : Int)) && (decide (LG ≥ (11 : Int))))) fun (LP : Bool) =>
  cond LP
    (
    lt ((if (138 : Int) < LG then (138 : Int) else LG)) fun (LJ : Int) =>
    chk (room (LF.length + ([(qm.mk (18 : Int) (qh (LJ - (11 : Int))) (7 : Int))] : List qm).length) 24) <|
    lt (LF ++ ([(qm.mk (18 : Int) (qh (LJ - (11 : Int))) (7 : Int))] : List qm)) fun (LL : (List qm)) =>
    lt ((qh (LI + LJ))) fun (LQ : Int) =>
    g1 LL LQ)
    (
    lt ((((rd LH LI) == (0 : Int)) && (decide (LG ≥ (3 : Int))))) fun (LR : Bool) =>
    cond LR
      (
      chk (room (LF.length + ([(qm.mk (17 : Int) (qh (LG - (3 : Int))) (3 : Int))] : List qm).length) 24) <|
      lt (LF ++ ([(qm.mk (17 : Int) (qh (LG - (3 : Int))) (3 : Int))] : List qm)) fun (LM : (List qm)) =>
      lt ((qh (LI + LG))) fun (LS : Int) =>
      g1 LM LS)
      (
      lt ((decide (LG ≥ (4 : Int)))) fun (LT : Bool) =>
      cond LT
        (
        lt ((if (7 : Int) < LG then (7 : Int) else LG)) fun (LK : Int) =>
        chk (room (LF.length + ([(qm.mk (rd LH LI) (0 : Int) (0 : Int)), (qm.mk (16 : Int) (qh (LK - (4 : Int))) (2 : Int))] : List qm).length) 24) <|
        lt (LF ++ ([(qm.mk (rd LH LI) (0 : Int) (0 : Int)), (qm.mk (16 : Int) (qh (LK - (4 : Int))) (2 : Int))] : List qm)) fun (LN : (List qm)) =>
        lt ((qh (LI + LK))) fun (LU : Int) =>
        g1 LN LU)
        (
        chk (room (LF.length + ([(qm.mk (rd LH LI) (0 : Int) (0 : Int))] : List qm).length) 24) <|
        lt (LF ++ ([(qm.mk (rd LH LI) (0 : Int) (0 : Int))] : List qm)) fun (LO : (List qm)) =>
        lt ((qh (LI + (1 : Int)))) fun (LV : Int) =>
        g1 LO LV)))
def qU.j3 (K : Nat) (g1 : (List qm) → Int → qS (List qm)) (g2 : Int → qS (List qm)) (LG : List Int) (LH : (List qm)) (LJ : Int) (LF : Int) (LK : Bool) : qS (List qm) :=
  cond LK
    (
    lt ((qh (LF + (1 : Int)))) fun (LI : Int) =>
    g2 LI)
    (
    qU.j4 K (g1) LG LH LJ LF)
def qU.l2 (K : Nat) (g1 : (List qm) → Int → qS (List qm)) (LF : List Int) (LH : (List qm)) (LG : Int) : Nat → Int → qS (List qm)
  | 0, _ => .fail
  | k + 1, LI =>
    cond (decide ((qh (LG + LI)) < (LF.length : Int)))
      (
      chk (inb (qh (LG + LI)) LF.length) <|
      chk (inb LG LF.length) <|
      qU.j3 K (g1) (qU.l2 K g1 LF LH LG k) LF LH LG LI ((rd LF (qh (LG + LI))) == (rd LF LG)))
      (
      qU.j3 K (g1) (qU.l2 K g1 LF LH LG k) LF LH LG LI false)
def qU.l1 (K : Nat) (LF : List Int) : Nat → (List qm) → Int → qS (List qm)
  | 0, _, _ => .fail
  | k + 1, LG, LH =>
    cond (decide (LH < (LF.length : Int)))
      (
      qU.l2 K (qU.l1 K LF k) LF LG LH K (1 : Int))
      (
      .ok LG)
def qU.m (K : Nat) (LF : List Int) : qS (List qm) :=
  qU.l1 K LF K ([] : List qm) (0 : Int)
def zR.l1 (K : Nat) (LG : qs) (LH : qw) (LL : Int) : Nat → Int → (List Int) → Int → qS (Int × (List Int))
  | 0, _, _, _ => .fail
  | k + 1, LI, LF, LJ =>
    cond (decide (LJ ≥ (0 : Int)))
      (
      chk (inb LL LH.codes_.length) <|
      chk (decide (0 ≤ LJ)) <|
      (qq.m K (qs.mk (qW.mk (qt.mk LI) LF) LG.literals_ LG.distances_) (wr .u32 (xX .i64 (xF .i64 (rd LH.codes_ LL) LJ) (1 : Int))) (1 : Int)).bind fun (LO, LM, LK) =>
      lt ((qh (LJ - (1 : Int)))) fun (LN : Int) =>
      zR.l1 K LG LH LL k LM LK LN)
      (
      .ok (LI, LF))
def zR.m (K : Nat) (LF : qs) (LG : qw) (LH : Int) : qS (Int × (List Int)) :=
  chk (inb LH LG.lengths_.length) <|
  lt ((qh ((rd LG.lengths_ LH) - (1 : Int)))) fun (LI : Int) =>
  zR.l1 K LF LG LH K LF.Writer_.place_.at_ LF.Writer_.bytes_ LI
def qk.j12 (K : Nat) (LN : List qB) (LL : (List Int)) (LF : (List Int)) (LM : (List Int)) (LG : (List Int)) (LJ : Int) (LH : (List Int)) : qS ((List UInt8) × Int) :=
  (zh.m K (qs.mk (qW.mk (qt.mk LJ) LH) (qw.mk LL LF) (qw.mk LM LG)) LN).bind fun (LK, LI) =>
  (zY.m K (qs.mk (qW.mk (qt.mk LK) LI) (qw.mk LL LF) (qw.mk LM LG))).bind fun LO =>
  .ok (LO, (0 : Int))
def qk.l11 (K : Nat) (LQ : List qB) (LL : (List Int)) (LF : (List Int)) (LM : (List Int)) (LG : (List Int)) (LH : (List qm)) (LT : (List Int)) (LI : (List Int)) : Nat → Int → (List Int) → Int → qS ((List UInt8) × Int)
  | 0, _, _, _ => .fail
  | k + 1, LN, LJ, LK =>
    cond (decide (LK < (LH.length : Int)))
      (
      chk (inb LK LH.length) <|
      (zR.m K (qs.mk (qW.mk (qt.mk LN) LJ) (qw.mk LL LF) (qw.mk LM LG)) (qw.mk LT LI) ((rd LH LK).symbol_)).bind fun (LR, LO) =>
      (qq.m K (qs.mk (qW.mk (qt.mk LR) LO) (qw.mk LL LF) (qw.mk LM LG)) (wr .u32 (rd LH LK).more_) ((rd LH LK).bits_)).bind fun (LU, LS, LP) =>
      qk.l11 K LQ LL LF LM LG LH LT LI k LS LP (qh (LK + (1 : Int))))
      (
      qk.j12 K LQ LL LF LM LG LN LJ)
def qk.j10 (K : Nat) (LK : List qB) (LL : (List Int)) (LF : (List Int)) (LM : (List Int)) (LG : (List Int)) (LN : (List qm)) (LO : (List Int)) (LH : (List Int)) (LJ : Int) (LI : (List Int)) : qS ((List UInt8) × Int) :=
  qk.l11 K LK LL LF LM LG LN LO LH K LJ LI (0 : Int)
def qk.l9 (K : Nat) (LN : List qB) (LO : (List Int)) (LF : (List Int)) (LP : (List Int)) (LG : (List Int)) (LR : (List qm)) (LJ : (List Int)) (LH : (List Int)) : Nat → Int → (List Int) → Int → qS ((List UInt8) × Int)
  | 0, _, _, _ => .fail
  | k + 1, LK, LI, LL =>
    cond (decide (LL < (19 : Int)))
      (
      chk (inb LL 19) <|
      lt ((rd tab_deflate_order LL)) fun (LS : Int) =>
      chk (inb LS LJ.length) <|
      (qq.m K (qs.mk (qW.mk (qt.mk LK) LI) (qw.mk LO LF) (qw.mk LP LG)) (wr .u32 (rd LJ LS)) (3 : Int)).bind fun (LT, LQ, LM) =>
      qk.l9 K LN LO LF LP LG LR LJ LH k LQ LM (qh (LL + (1 : Int))))
      (
      qk.j10 K LN LO LF LP LG LR LJ LH LK LI)
def qk.j8 (K : Nat) (LU : List qB) (LH : (List Int)) (LF : (List Int)) (LI : (List Int)) (LG : (List Int)) (LV : (List qm)) (LJ : (List Int)) : qS ((List UInt8) × Int) :=
  (qF.m K LJ (7 : Int)).bind fun (LT, LW) =>
  (yh.m K LT).bind fun LK =>
  (qq.m K (qs.mk (qW.mk (qt.mk (0 : Int)) ([] : List Int)) (qw.mk LH LF) (qw.mk LI LG)) (5 : Int) (3 : Int)).bind fun (LX, LP, LL) =>
  (qq.m K (qs.mk (qW.mk (qt.mk LP) LL) (qw.mk LH LF) (qw.mk LI LG)) (29 : Int) (5 : Int)).bind fun (LY, LQ, LM) =>
  (qq.m K (qs.mk (qW.mk (qt.mk LQ) LM) (qw.mk LH LF) (qw.mk LI LG)) (29 : Int) (5 : Int)).bind fun (LZ, LR, LN) =>
  (qq.m K (qs.mk (qW.mk (qt.mk LR) LN) (qw.mk LH LF) (qw.mk LI LG)) (15 : Int) (4 : Int)).bind fun (L0, LS, LO) =>
  qk.l9 K LU LH LF LI LG LV LT LK K LS LO (0 : Int)
def qk.j7 (K : Nat) (LI : List qB) (LK : (List Int)) (LG : (List Int)) (LL : (List Int)) (LH : (List Int)) (LM : (List qm)) (LF : (List Int)) (LN : Int) : qS ((List UInt8) × Int) :=
  cond (decide (LN < (2 : Int)))
    (
    chk (inb (0 : Int) LF.length) <|
    chk (inb (1 : Int) LF.length) <|
    lt (LF.set (Int.toNat (0 : Int)) (if (1 : Int) > (rd LF (0 : Int)) then (1 : Int) else (rd LF (0 : Int)))) fun (LJ : (List Int)) =>
    chk (inb (1 : Int) LJ.length) <|
    lt (LJ.set (Int.toNat (1 : Int)) (if (1 : Int) > (rd LF (1 : Int)) then (1 : Int) else (rd LF (1 : Int)))) fun (LO : (List Int)) =>
    qk.j8 K LI LK LG LL LH LM LO)
    (
    qk.j8 K LI LK LG LL LH LM LF)
def qk.l6 (K : Nat) (LJ : List qB) (LM : (List Int)) (LG : (List Int)) (LN : (List Int)) (LH : (List Int)) (LO : (List qm)) (LF : (List Int)) : Nat → Int → Int → qS ((List UInt8) × Int)
  | 0, _, _ => .fail
  | k + 1, LK, LI =>
    cond (decide (LI < (LF.length : Int)))
      (
      chk (inb LI LF.length) <|
      lt ((rd LF LI)) fun (LL : Int) =>
      lt ((qh (LK + (if (1 : Int) < LL then (1 : Int) else LL)))) fun (LP : Int) =>
      qk.l6 K LJ LM LG LN LH LO LF k LP (qh (LI + (1 : Int))))
      (
      qk.j7 K LJ LM LG LN LH LO LF LK)
def qk.j5 (K : Nat) (LI : List qB) (LJ : (List Int)) (LF : (List Int)) (LK : (List Int)) (LG : (List Int)) (LL : (List qm)) (LH : (List Int)) : qS ((List UInt8) × Int) :=
  qk.l6 K LI LJ LF LK LG LL LH K (0 : Int) (0 : Int)
def qk.l4 (K : Nat) (LK : List qB) (LL : (List Int)) (LH : (List Int)) (LM : (List Int)) (LI : (List Int)) (LG : (List qm)) : Nat → (List Int) → Int → qS ((List UInt8) × Int)
  | 0, _, _ => .fail
  | k + 1, LF, LJ =>
    cond (decide (LJ < (LG.length : Int)))
      (
      chk (inb LJ LG.length) <|
      chk (inb (rd LG LJ).symbol_ LF.length) <|
      lt (LF.set (Int.toNat (rd LG LJ).symbol_) (qh ((rd LF (rd LG LJ).symbol_) + (1 : Int)))) fun (LN : (List Int)) =>
      qk.l4 K LK LL LH LM LI LG k LN (qh (LJ + (1 : Int))))
      (
      qk.j5 K LK LL LH LM LI LG LF)
def qk.j3 (K : Nat) (LM : List qB) (LG : (List Int)) (LF : (List Int)) : qS ((List UInt8) × Int) :=
  (q7.m K LG).bind fun (LH, LP) =>
  (yh.m K LH).bind fun LJ =>
  (q7.m K LF).bind fun (LI, LQ) =>
  (yh.m K LI).bind fun LK =>
  chk (room (([] : List Int).length + LH.length) 8) <|
  lt (([] : List Int) ++ LH) fun (LL : (List Int)) =>
  chk (room (LL.length + LI.length) 8) <|
  lt (LL ++ LI) fun (LN : (List Int)) =>
  (qU.m K LN).bind fun LR =>
  chk (decide (0 ≤ (19 : Int)) && room (Int.toNat (19 : Int)) 8) <|
  lt (List.replicate (Int.toNat (19 : Int)) (0 : Int)) fun (LO : (List Int)) =>
  qk.l4 K LM LH LJ LI LK LR K LO (0 : Int)
def qk.l2 (K : Nat) (LH : List qB) : Nat → (List Int) → (List Int) → Int → qS ((List UInt8) × Int)
  | 0, _, _, _ => .fail
  | k + 1, LF, LG, LI =>
    cond (decide (LI < (LH.length : Int)))
      (
      chk (inb LI LH.length) <|
      cond ((rd LH LI).Dist_ == (0 : Int))
        (
        chk (inb (rd LH LI).Lit_ LF.length) <|
        lt (LF.set (Int.toNat (rd LH LI).Lit_) (qh ((rd LF (rd LH LI).Lit_) + (1 : Int)))) fun (LL : (List Int)) =>
        qk.l2 K LH k LL LG (qh (LI + (1 : Int))))
        (
        (yP.m K ((rd LH LI).Len_)).bind fun (LJ, LO, LP) =>
        chk (inb LJ LF.length) <|
        lt (LF.set (Int.toNat LJ) (qh ((rd LF LJ) + (1 : Int)))) fun (LM : (List Int)) =>
        (yx.m K ((rd LH LI).Dist_)).bind fun (LK, LQ, LR) =>
        chk (inb LK LG.length) <|
        lt (LG.set (Int.toNat LK) (qh ((rd LG LK) + (1 : Int)))) fun (LN : (List Int)) =>
        qk.l2 K LH k LM LN (qh (LI + (1 : Int)))))
      (
      qk.j3 K LH LF LG)
def qk.j1 (K : Nat) (LH : List qB) (LF : (List Int)) (LG : (List Int)) : qS ((List UInt8) × Int) :=
  chk (inb (256 : Int) LF.length) <|
  lt (LF.set (Int.toNat (256 : Int)) (qh ((rd LF (256 : Int)) + (1 : Int)))) fun (LI : (List Int)) =>
  qk.l2 K LH K LI LG (0 : Int)
def qk.m (K : Nat) (LF : List qB) : qS ((List UInt8) × Int) :=
  (jk.m K LF).bind fun LI =>
  cond (!LI)
    (
    .ok (([] : List UInt8), (1 : Int)))
    (
    chk (decide (0 ≤ (286 : Int)) && room (Int.toNat (286 : Int)) 8) <|
    lt (List.replicate (Int.toNat (286 : Int)) (0 : Int)) fun (LG : (List Int)) =>
    chk (decide (0 ≤ (30 : Int)) && room (Int.toNat (30 : Int)) 8) <|
    lt (List.replicate (Int.toNat (30 : Int)) (0 : Int)) fun (LH : (List Int)) =>
    qk.j1 K LF LG LH)
def zM.j2 (K : Nat) (g1 : (List UInt8) → (List Int) → qS (List UInt8)) (LG : List UInt8) (LI : (List Int)) (LF : Int) (LH : Int) : qS (List UInt8) :=
  chk (room (LI.length + ([LH, (wr .u8 LF), (wr .u8 (xF .i64 LF (8 : Int))), (QF .u8 (wr .u8 LF)), (QF .u8 (wr .u8 (xF .i64 LF (8 : Int))))] : List Int).length) 1) <|
  lt (LI ++ ([LH, (wr .u8 LF), (wr .u8 (xF .i64 LF (8 : Int))), (QF .u8 (wr .u8 LF)), (QF .u8 (wr .u8 (xF .i64 LF (8 : Int))))] : List Int)) fun (LJ : (List Int)) =>
  chk (subok (0 : Int) LF LG.length) <|
  chk (room (LJ.length + (sub LG (0 : Int) LF).length) 1) <|
  lt (LJ ++ (sub LG (0 : Int) LF).map uS) fun (LK : (List Int)) =>
  chk (subok LF (LG.length : Int) LG.length) <|
  lt ((sub LG LF (LG.length : Int))) fun (LL : List UInt8) =>
  cond (LH == (1 : Int))
    (
    lt ((LK.map QU)) fun (LM : List UInt8) =>
    .ok LM)
    (
    g1 LL LK)
def zM.l1 (K : Nat)  : Nat → (List UInt8) → (List Int) → qS (List UInt8)
  | 0, _, _ => .fail
  | k + 1, LF, LH =>
    lt ((if (LF.length : Int) < (65535 : Int) then (LF.length : Int) else (65535 : Int))) fun (LG : Int) =>
    cond (LG == (LF.length : Int))
      (
      zM.j2 K (zM.l1 K k) LF LH LG (1 : Int))
      (
      zM.j2 K (zM.l1 K k) LF LH LG (0 : Int))
def zM.m (K : Nat) (LF : List UInt8) : qS (List UInt8) :=
  zM.l1 K K LF ([] : List Int)
def yE.m (K : Nat) (LF : xp) (LG : Int) : qS Unit :=
  chk (inb LG LF.text_.length) <|
  chk (inb (qh (LG + (1 : Int))) LF.text_.length) <|
  chk (inb (qh (LG + (2 : Int))) LF.text_.length) <|
  .ok ()
def zC.j2 (K : Nat) (g1 : Int → qS Int) (LF : Int) (LH : Bool) : qS Int :=
  cond LH
    (
    lt ((qh (LF + (1 : Int)))) fun (LG : Int) =>
    g1 LG)
    (
    .ok LF)
def zC.l1 (K : Nat) (LG : xp) (LI : Int) (LH : Int) : Nat → Int → qS Int
  | 0, _ => .fail
  | k + 1, LF =>
    cond (decide (LF < (258 : Int)))
      (
      cond (decide ((qh (LH + LF)) < (LG.text_.length : Int)))
        (
        chk (inb (qh (LI + LF)) LG.text_.length) <|
        chk (inb (qh (LH + LF)) LG.text_.length) <|
        zC.j2 K (zC.l1 K LG LI LH k) LF (((rd LG.text_ (qh (LI + LF))).toNat : Int) == ((rd LG.text_ (qh (LH + LF))).toNat : Int)))
        (
        zC.j2 K (zC.l1 K LG LI LH k) LF false))
      (
      zC.j2 K (zC.l1 K LG LI LH k) LF false)
def zC.m (K : Nat) (LF : xp) (LG : Int) (LH : Int) : qS Int :=
  zC.l1 K LF LG LH K (0 : Int)
def zP.j2 (K : Nat)  (LG : Int) (LF : Int) : qS (Int × Int) :=
  .ok (LG, LF)
def zP.l1 (K : Nat) (LK : xp) (LJ : Int) (LG : (List Int)) : Nat → Int → Int → Int → qS (Int × Int)
  | 0, _, _, _ => .fail
  | k + 1, LH, LI, LF =>
    cond ((decide (LF < (32 : Int))) && (decide (LF < (LG.length : Int))))
      (
      chk (inb (qh ((qh ((LG.length : Int) - (1 : Int))) - LF)) LG.length) <|
      lt ((rd LG (qh ((qh ((LG.length : Int) - (1 : Int))) - LF)))) fun (LN : Int) =>
      cond (decide ((qh (LJ - LN)) > (32768 : Int)))
        (
        zP.j2 K LH LI)
        (
        (zC.m K LK LN LJ).bind fun LO =>
        cond (decide (LO > LH))
          (
          lt ((qh (LF + (1 : Int)))) fun (LL : Int) =>
          zP.l1 K LK LJ LG k LO (qh (LJ - LN)) LL)
          (
          lt ((qh (LF + (1 : Int)))) fun (LM : Int) =>
          zP.l1 K LK LJ LG k LH LI LM)))
      (
      zP.j2 K LH LI)
def zP.m (K : Nat) (LF : xp) (LG : Int) : qS (Int × Int) :=
  cond (decide ((qh (LG + (3 : Int))) > (LF.text_.length : Int)))
    (
    .ok ((0 : Int), (0 : Int)))
    (
    (yE.m K LF LG).bind fun _ =>
    lt (vn LF.seen_ ([((rd LF.text_ LG).toNat : Int), ((rd LF.text_ (qh (LG + (1 : Int)))).toNat : Int), ((rd LF.text_ (qh (LG + (2 : Int)))).toNat : Int)] : List Int)) fun (LH : (List Int)) =>
    zP.l1 K LF LG LH K (0 : Int) (0 : Int) (0 : Int))
def yG.m (K : Nat) (LF : xp) (LG : Int) : qS (List ((List Int) × (List Int))) :=
  cond (decide ((qh (LG + (3 : Int))) ≤ (LF.text_.length : Int)))
    (
    (yE.m K LF LG).bind fun _ =>
    lt (vn LF.seen_ ([((rd LF.text_ LG).toNat : Int), ((rd LF.text_ (qh (LG + (1 : Int)))).toNat : Int), ((rd LF.text_ (qh (LG + (2 : Int)))).toNat : Int)] : List Int)) fun (LH : (List Int)) =>
    chk (room (LH.length + ([LG] : List Int).length) 8) <|
    lt (LH ++ ([LG] : List Int)) fun (LI : (List Int)) =>
    lt (QS LF.seen_ ([((rd LF.text_ LG).toNat : Int), ((rd LF.text_ (qh (LG + (1 : Int)))).toNat : Int), ((rd LF.text_ (qh (LG + (2 : Int)))).toNat : Int)] : List Int) LI) fun (LJ : (List ((List Int) × (List Int)))) =>
    .ok LJ)
    (
    .ok LF.seen_)
def zW.l3 (K : Nat) (g1 : (List ((List Int) × (List Int))) → (List qB) → Int → qS (List qB)) (LK : List UInt8) (LF : Int) (LH : (List qB)) : Nat → (List ((List Int) × (List Int))) → Int → Int → qS (List qB)
  | 0, _, _, _ => .fail
  | k + 1, LG, LI, LL =>
    cond (decide (LL < (if LF > (1 : Int) then LF else (1 : Int))))
      (
      (yG.m K (xp.mk LK LG) LI).bind fun LJ =>
      lt ((qh (LI + (1 : Int)))) fun (LM : Int) =>
      zW.l3 K g1 LK LF LH k LJ LM (qh (LL + (1 : Int))))
      (
      g1 LG LH LI)
def zW.j2 (K : Nat) (g1 : (List ((List Int) × (List Int))) → (List qB) → Int → qS (List qB)) (LL : List UInt8) (LI : (List ((List Int) × (List Int)))) (LJ : (List qB)) (LM : Int) (LH : Int) (LF : Int) (LG : Int) : qS (List qB) :=
  chk (room (LJ.length + ([(qB.mk LH LF LG)] : List qB).length) 24) <|
  lt (LJ ++ ([(qB.mk LH LF LG)] : List qB)) fun (LK : (List qB)) =>
  zW.l3 K (g1) LL LF LK K LI LM (0 : Int)
def zW.l1 (K : Nat) (LF : List UInt8) : Nat → (List ((List Int) × (List Int))) → (List qB) → Int → qS (List qB)
  | 0, _, _, _ => .fail
  | k + 1, LG, LI, LH =>
    cond (decide (LH < (LF.length : Int)))
      (
      (zP.m K (xp.mk LF LG) LH).bind fun (LJ, LK) =>
      cond (decide (LJ < (3 : Int)))
        (
        chk (inb LH LF.length) <|
        zW.j2 K (zW.l1 K LF k) LF LG LI LH ((rd LF LH).toNat : Int) (0 : Int) (0 : Int))
        (
        zW.j2 K (zW.l1 K LF k) LF LG LI LH (0 : Int) LJ LK))
      (
      .ok LI)
def zW.m (K : Nat) (LF : List UInt8) : qS (List qB) :=
  zW.l1 K LF K ([] : List ((List Int) × (List Int))) ([] : List qB) (0 : Int)
def zZ.j1 (K : Nat) (LH : (List qB)) (LF : List UInt8) : qS (List UInt8) :=
  (qk.m K LH).bind fun (LG, LI) =>
  cond ((LI == (0 : Int)) && (decide ((LG.length : Int) < (LF.length : Int))))
    (
    .ok LG)
    (
    .ok LF)
def zZ.m (K : Nat) (LG : List UInt8) : qS (List UInt8) :=
  (zW.m K LG).bind fun LF =>
  (zM.m K LG).bind fun LH =>
  (yI.m K LF).bind fun (LI, LJ) =>
  cond ((LJ == (0 : Int)) && (decide ((LI.length : Int) < (LH.length : Int))))
    (
    zZ.j1 K LF LI)
    (
    zZ.j1 K LF LH)
def xr.j1 (K : Nat)  (LF : Bool) : qS Bool :=
  .ok LF
def xr.m (K : Nat) : qS Bool :=
  (yI.m K ([(qB.mk (97 : Int) (0 : Int) (0 : Int))] : List qB)).bind fun (LF, LG) =>
  (qk.m K ([(qB.mk (0 : Int) (1 : Int) (0 : Int))] : List qB)).bind fun (LK, LH) =>
  (zM.m K ([] : List UInt8)).bind fun LI =>
  cond ((((LI == ([1, 0, 0, 255, 255] : List UInt8)) && (LF == ([75, 4, 0] : List UInt8))) && (LG == (0 : Int))) && (LH == (1 : Int)))
    (
    (zZ.m K ([] : List UInt8)).bind fun LJ =>
    xr.j1 K (!(LJ == ([] : List UInt8))))
    (
    xr.j1 K false)
def Q2.m (K : Nat) (LF : List UInt8) : qS Unit :=
  .ok ()
def zH.j2 (K : Nat) (LG : qL) (LF : Int) (LH : Int) : qS (Int × Int × Int) :=
  chk (decide (0 ≤ (xX .i64 LG.place_.at_ (7 : Int)))) <|
  lt ((xF .u64 LH (xX .i64 LG.place_.at_ (7 : Int)))) fun (LI : Int) =>
  chk (decide (0 ≤ LF)) <|
  lt ((wr .u32 (xX .u64 LI (wr .u64 ((xf .u64 (1 : Int) LF) - (1 : Int)))))) fun (LJ : Int) =>
  .ok (LJ, (0 : Int), (qh (LG.place_.at_ + LF)))
def zH.l1 (K : Nat) (LH : qL) (LI : Int) (LF : Int) : Nat → Int → Int → qS (Int × Int × Int)
  | 0, _, _ => .fail
  | k + 1, LJ, LG =>
    cond (decide ((qh ((8 : Int) * (qh (LF + LG)))) < (qh (LH.place_.at_ + LI))))
      (
      chk (inb (qh (LF + LG)) LH.text_.length) <|
      chk (decide (0 ≤ (qh ((8 : Int) * LG)))) <|
      lt ((Zv .u64 LJ (xf .u64 (wr .u64 ((rd LH.text_ (qh (LF + LG))).toNat : Int)) (qh ((8 : Int) * LG))))) fun (LK : Int) =>
      lt ((qh (LG + (1 : Int)))) fun (LL : Int) =>
      zH.l1 K LH LI LF k LK LL)
      (
      zH.j2 K LH LI LJ)
def zH.m (K : Nat) (LF : qL) (LG : Int) : qS (Int × Int × Int) :=
  lt (((decide (LG < (0 : Int))) || (decide (LG > (32 : Int))))) fun (LI : Bool) =>
  cond LI
    (
    .ok ((0 : Int), (1 : Int), LF.place_.at_))
    (
    lt ((decide (LG > (qh ((qh ((8 : Int) * (LF.text_.length : Int))) - LF.place_.at_))))) fun (LJ : Bool) =>
    cond LJ
      (
      .ok ((0 : Int), (2 : Int), LF.place_.at_))
      (
      lt ((yD .i64 LF.place_.at_ (8 : Int))) fun (LH : Int) =>
      zH.l1 K LF LG LH K (0 : Int) (0 : Int)))
def yt.m (K : Nat) (LF : Int) : qS Unit :=
  cond (LF != (0 : Int))
    (
    .pan (.iface xC (.agg ⟨[.int .i64 LF]⟩)))
    (
    .ok ())
def zQ.m (K : Nat) (LH : qA) (LG : Int) : qS (Int × Int) :=
  (zH.m K LH.Reader_ LG).bind fun (LI, LJ, LF) =>
  (yt.m K LJ).bind fun _ =>
  lt ((wr .i64 LI)) fun (LK : Int) =>
  .ok (LK, LF)
def xW.m (K : Nat) (LF : qL) : qS Int :=
  .ok (Yp .i64 (qh (LF.place_.at_ + (7 : Int))) (7 : Int))
def yo.m (K : Nat) (LI : qL) (LG : Int) : qS ((List UInt8) × Int × Int) :=
  cond (decide (LG < (0 : Int)))
    (
    .ok (([] : List UInt8), (1 : Int), LI.place_.at_))
    (
    (xW.m K LI).bind fun LF =>
    chk (subok (yD .i64 LF (8 : Int)) (LI.text_.length : Int) LI.text_.length) <|
    lt ((sub LI.text_ (yD .i64 LF (8 : Int)) (LI.text_.length : Int))) fun (LH : List UInt8) =>
    cond (decide (LG > (LH.length : Int)))
      (
      .ok (([] : List UInt8), (2 : Int), LF))
      (
      chk (subok (0 : Int) LG LH.length) <|
      lt ((sub LH (0 : Int) LG)) fun (LJ : List UInt8) =>
      .ok (LJ, (0 : Int), (qh (LF + (qh ((8 : Int) * LG)))))))
def zL.m (K : Nat) (LF : Bool) (LG : Int) : qS Unit :=
  cond LF
    (
    .pan (.iface xC (.agg ⟨[.int .i64 LG]⟩)))
    (
    .ok ())
def ya.m (K : Nat) (LG : qA) : qS (Int × (List Int)) :=
  (yo.m K LG.Reader_ (4 : Int)).bind fun (LF, LM, LI) =>
  (yt.m K LM).bind fun _ =>
  chk (inb (0 : Int) LF.length) <|
  chk (inb (1 : Int) LF.length) <|
  lt ((Zv .i64 (wr .i64 ((rd LF (0 : Int)).toNat : Int)) (xf .i64 (wr .i64 ((rd LF (1 : Int)).toNat : Int)) (8 : Int)))) fun (LH : Int) =>
  chk (inb (2 : Int) LF.length) <|
  chk (inb (3 : Int) LF.length) <|
  (zL.m K ((Zv .i64 (wr .i64 ((rd LF (2 : Int)).toNat : Int)) (xf .i64 (wr .i64 ((rd LF (3 : Int)).toNat : Int)) (8 : Int))) != (ZK .i64 LH (65535 : Int))) (3 : Int)).bind fun _ =>
  (yo.m K (qL.mk (qt.mk LI) LG.Reader_.text_) LH).bind fun (LK, LN, LJ) =>
  (yt.m K LN).bind fun _ =>
  (zL.m K (decide ((qh ((LG.out_.length : Int) + LH)) > LG.limit_)) (11 : Int)).bind fun _ =>
  chk (room (LG.out_.length + LK.length) 1) <|
  lt (LG.out_ ++ LK.map uS) fun (LL : (List Int)) =>
  .ok (LJ, LL)
def xK.l2 (K : Nat) (g1 : (List Int) → Int → qS ((Option qK) × Int)) (LF : List Int) (LI : Int) : Nat → (List Int) → Int → qS ((Option qK) × Int)
  | 0, _, _ => .fail
  | k + 1, LG, LH =>
    cond (decide (LH < (LF.length : Int)))
      (
      chk (inb LH LF.length) <|
      lt ((rd LF LH)) fun (LJ : Int) =>
      cond (LJ == LI)
        (
        chk (room (LG.length + ([LH] : List Int).length) 8) <|
        lt (LG ++ ([LH] : List Int)) fun (LK : (List Int)) =>
        xK.l2 K g1 LF LI k LK (qh (LH + (1 : Int))))
        (
        xK.l2 K g1 LF LI k LG (qh (LH + (1 : Int)))))
      (
      lt ((qh (LI + (1 : Int)))) fun (LL : Int) =>
      g1 LG LL)
def xK.l1 (K : Nat) (LF : List Int) (LI : (List Int)) : Nat → (List Int) → Int → qS ((Option qK) × Int)
  | 0, _, _ => .fail
  | k + 1, LG, LH =>
    cond (decide (LH ≤ (15 : Int)))
      (
      xK.l2 K (xK.l1 K LF LI k) LF LH K LG (0 : Int))
      (
      .ok ((some (qK.mk LI LG)), (0 : Int)))
def xK.m (K : Nat) (LF : List Int) : qS ((Option qK) × Int) :=
  (xu.m K LF).bind fun LG =>
  cond (LG != (0 : Int))
    (
    .ok (none, LG))
    (
    (xi.m K LF).bind fun (LH, LI) =>
    xK.l1 K LF LH K ([] : List Int) (1 : Int))
def yi.m (K : Nat) (LF : List Int) : qS (Option qK) :=
  (xK.m K LF).bind fun (LG, LH) =>
  (zL.m K (LH != (0 : Int)) (3 : Int)).bind fun _ =>
  .ok LG
def zv.j2 (K : Nat) (g1 : (List Int) → Int → qS ((Option qK) × (Option qK))) (LF : Int) (LG : (List Int)) : qS ((Option qK) × (Option qK)) :=
  cond ((decide (LF ≥ (256 : Int))) && (decide (LF < (280 : Int))))
    (
    lt (LG.set (Int.toNat LF) (7 : Int)) fun (LH : (List Int)) =>
    g1 LH (qh (LF + (1 : Int))))
    (
    g1 LG (qh (LF + (1 : Int))))
def zv.j5 (K : Nat) (LF : (List Int)) (LG : (List Int)) : qS ((Option qK) × (Option qK)) :=
  (yi.m K LF).bind fun LH =>
  (yi.m K LG).bind fun LI =>
  .ok (LH, LI)
def zv.l4 (K : Nat) (LG : (List Int)) : Nat → (List Int) → Int → qS ((Option qK) × (Option qK))
  | 0, _, _ => .fail
  | k + 1, LH, LF =>
    cond (decide (LF < (32 : Int)))
      (
      chk (inb LF 32) <|
      lt (LH.set (Int.toNat LF) (5 : Int)) fun (LI : (List Int)) =>
      zv.l4 K LG k LI (qh (LF + (1 : Int))))
      (
      zv.j5 K LG LH)
def zv.j3 (K : Nat)  (LF : (List Int)) : qS ((Option qK) × (Option qK)) :=
  zv.l4 K LF K (List.replicate 32 (0 : Int)) (0 : Int)
def zv.l1 (K : Nat)  : Nat → (List Int) → Int → qS ((Option qK) × (Option qK))
  | 0, _, _ => .fail
  | k + 1, LG, LF =>
    cond (decide (LF < (288 : Int)))
      (
      chk (inb LF 288) <|
      lt (LG.set (Int.toNat LF) (8 : Int)) fun (LH : (List Int)) =>
      cond ((decide (LF ≥ (144 : Int))) && (decide (LF < (256 : Int))))
        (
        lt (LH.set (Int.toNat LF) (9 : Int)) fun (LI : (List Int)) =>
        zv.j2 K (zv.l1 K k) LF LI)
        (
        zv.j2 K (zv.l1 K k) LF LH))
      (
      zv.j3 K LG)
def zv.m (K : Nat) : qS ((Option qK) × (Option qK)) :=
  zv.l1 K K (List.replicate 288 (0 : Int)) (0 : Int)
def z9.j2 (K : Nat) (LF : qL) (LG : Int) : qS (Int × Int × Int) :=
  .ok ((0 : Int), (3 : Int), LF.place_.at_)
def z9.l1 (K : Nat) (LI : qK) (LM : qL) : Nat → Int → Int → Int → Int → Int → qS (Int × Int × Int)
  | 0, _, _, _, _, _ => .fail
  | k + 1, LN, LR, LP, LF, LJ =>
    cond (decide (LF < (LI.symbols_.length : Int)))
      (
      (zH.m K (qL.mk (qt.mk LN) LM.text_) (1 : Int)).bind fun (LU, LS, LO) =>
      cond (LS != (0 : Int))
        (
        .ok ((0 : Int), LS, LM.place_.at_))
        (
        lt ((Zv .i64 (xf .i64 LR (1 : Int)) (wr .i64 LU))) fun (LH : Int) =>
        lt ((xf .i64 LP (1 : Int))) fun (LG : Int) =>
        chk (inb LJ 16) <|
        lt ((rd LI.counts_ LJ)) fun (LK : Int) =>
        cond (decide ((qh (LH - LG)) < LK))
          (
          chk (inb (qh ((qh (LF + LH)) - LG)) LI.symbols_.length) <|
          lt ((rd LI.symbols_ (qh ((qh (LF + LH)) - LG)))) fun (LV : Int) =>
          .ok (LV, (0 : Int), LO))
          (
          lt ((qh (LG + LK))) fun (LQ : Int) =>
          lt ((qh (LF + LK))) fun (LL : Int) =>
          lt ((qh (LJ + (1 : Int)))) fun (LT : Int) =>
          z9.l1 K LI LM k LO LH LQ LL LT)))
      (
      z9.j2 K LM LN)
def z9.m (K : Nat) (LG : qK) (LF : qL) : qS (Int × Int × Int) :=
  z9.l1 K LG LF K LF.place_.at_ (0 : Int) (0 : Int) (0 : Int) (1 : Int)
def xJ.m (K : Nat) (LG : qA) (LH : qK) : qS (Int × Int) :=
  (z9.m K LH LG.Reader_).bind fun (LI, LJ, LF) =>
  (yt.m K LJ).bind fun _ =>
  .ok (LI, LF)
def yc.m (K : Nat) (LH : qA) (LG : xD) : qS (Int × Int) :=
  (zQ.m K LH LG.bits_).bind fun (LI, LF) =>
  lt ((qh (LG.from_ + LI))) fun (LJ : Int) =>
  .ok (LJ, LF)
def qZ.l2 (K : Nat) (g1 : Int → (List Int) → qS (Int × (List Int))) (LI : Int) (LG : Int) (LH : Int) : Nat → (List Int) → Int → qS (Int × (List Int))
  | 0, _, _ => .fail
  | k + 1, LF, LJ =>
    cond (decide (LJ < LI))
      (
      chk (inb (qh ((LF.length : Int) - LG)) LF.length) <|
      chk (room (LF.length + ([(rd LF (qh ((LF.length : Int) - LG)))] : List Int).length) 1) <|
      lt (LF ++ ([(rd LF (qh ((LF.length : Int) - LG)))] : List Int)) fun (LK : (List Int)) =>
      qZ.l2 K g1 LI LG LH k LK (qh (LJ + (1 : Int))))
      (
      g1 LH LF)
def qZ.l1 (K : Nat) (LH : qA) (LG : qK) (LJ : qK) : Nat → Int → (List Int) → qS (Int × (List Int))
  | 0, _, _ => .fail
  | k + 1, LM, LF =>
    (xJ.m K (qA.mk (qL.mk (qt.mk LM) LH.Reader_.text_) LF LH.limit_) LG).bind fun (LI, LK) =>
    lt ((LI == (256 : Int))) fun (LT : Bool) =>
    cond LT
      (
      .ok (LK, LF))
      (
      lt ((decide (LI < (256 : Int)))) fun (LU : Bool) =>
      cond LU
        (
        (zL.m K ((LF.length : Int) == LH.limit_) (11 : Int)).bind fun _ =>
        chk (room (LF.length + ([(wr .u8 LI)] : List Int).length) 1) <|
        lt (LF ++ ([(wr .u8 LI)] : List Int)) fun (LS : (List Int)) =>
        qZ.l1 K LH LG LJ k LK LS)
        (
        (zL.m K (decide (LI ≥ (286 : Int))) (3 : Int)).bind fun _ =>
        chk (inb (qh (LI - (257 : Int))) 29) <|
        (yc.m K (qA.mk (qL.mk (qt.mk LK) LH.Reader_.text_) LF LH.limit_) (xD.mk ((rd tab_inflate_lengths (qh (LI - (257 : Int)))).from_) ((rd tab_inflate_lengths (qh (LI - (257 : Int)))).bits_))).bind fun (LQ, LN) =>
        (xJ.m K (qA.mk (qL.mk (qt.mk LN) LH.Reader_.text_) LF LH.limit_) LJ).bind fun (LL, LO) =>
        (zL.m K (decide (LL ≥ (30 : Int))) (3 : Int)).bind fun _ =>
        chk (inb LL 30) <|
        (yc.m K (qA.mk (qL.mk (qt.mk LO) LH.Reader_.text_) LF LH.limit_) (xD.mk ((rd tab_inflate_distances LL).from_) ((rd tab_inflate_distances LL).bits_))).bind fun (LR, LP) =>
        (zL.m K (decide (LR > (LF.length : Int))) (3 : Int)).bind fun _ =>
        (zL.m K (decide ((qh ((LF.length : Int) + LQ)) > LH.limit_)) (11 : Int)).bind fun _ =>
        qZ.l2 K (qZ.l1 K LH LG LJ k) LQ LR LP K LF (0 : Int)))
def qZ.m (K : Nat) (LG : qA) (LF : qK) (LH : qK) : qS (Int × (List Int)) :=
  qZ.l1 K LG LF LH K LG.Reader_.place_.at_ LG.out_
def qT.l3 (K : Nat) (g1 : Int → (List Int) → qS ((List Int) × Int)) (LI : Int) (LF : Int) (LG : Int) : Nat → (List Int) → Int → qS ((List Int) × Int)
  | 0, _, _ => .fail
  | k + 1, LH, LJ =>
    cond (decide (LJ < LG))
      (
      chk (room (LH.length + ([LF] : List Int).length) 8) <|
      lt (LH ++ ([LF] : List Int)) fun (LK : (List Int)) =>
      qT.l3 K g1 LI LF LG k LK (qh (LJ + (1 : Int))))
      (
      g1 LI LH)
def qT.j2 (K : Nat) (g1 : Int → (List Int) → qS ((List Int) × Int)) (LJ : Int) (LH : (List Int)) (LI : Int) (LG : Int) (LF : Int) : qS ((List Int) × Int) :=
  (zL.m K (decide (LF > (qh (LJ - (LH.length : Int))))) (3 : Int)).bind fun _ =>
  qT.l3 K (g1) LI LG LF K LH (0 : Int)
def qT.l1 (K : Nat) (LF : qA) (LH : Int) (LJ : qK) : Nat → Int → (List Int) → qS ((List Int) × Int)
  | 0, _, _ => .fail
  | k + 1, LK, LG =>
    cond (decide ((LG.length : Int) < LH))
      (
      (xJ.m K (qA.mk (qL.mk (qt.mk LK) LF.Reader_.text_) LF.out_ LF.limit_) LJ).bind fun (LL, LI) =>
      lt ((decide (LL < (16 : Int)))) fun (LT : Bool) =>
      cond LT
        (
        qT.j2 K (qT.l1 K LF LH LJ k) LH LG LI LL (1 : Int))
        (
        lt ((LL == (16 : Int))) fun (LU : Bool) =>
        cond LU
          (
          (zL.m K ((LG.length : Int) == (0 : Int)) (3 : Int)).bind fun _ =>
          chk (inb (qh ((LG.length : Int) - (1 : Int))) LG.length) <|
          (zQ.m K (qA.mk (qL.mk (qt.mk LI) LF.Reader_.text_) LF.out_ LF.limit_) (2 : Int)).bind fun (LV, LQ) =>
          lt ((rd LG (qh ((LG.length : Int) - (1 : Int))))) fun (LM : Int) =>
          lt ((qh ((3 : Int) + LV))) fun (LN : Int) =>
          qT.j2 K (qT.l1 K LF LH LJ k) LH LG LQ LM LN)
          (
          lt ((LL == (17 : Int))) fun (LW : Bool) =>
          cond LW
            (
            (zQ.m K (qA.mk (qL.mk (qt.mk LI) LF.Reader_.text_) LF.out_ LF.limit_) (3 : Int)).bind fun (LX, LR) =>
            lt ((qh ((3 : Int) + LX))) fun (LO : Int) =>
            qT.j2 K (qT.l1 K LF LH LJ k) LH LG LR (0 : Int) LO)
            (
            (zQ.m K (qA.mk (qL.mk (qt.mk LI) LF.Reader_.text_) LF.out_ LF.limit_) (7 : Int)).bind fun (LY, LS) =>
            lt ((qh ((11 : Int) + LY))) fun (LP : Int) =>
            qT.j2 K (qT.l1 K LF LH LJ k) LH LG LS (0 : Int) LP))))
      (
      .ok (LG, LK))
def qT.m (K : Nat) (LF : qA) (LG : Int) (LH : qK) : qS ((List Int) × Int) :=
  qT.l1 K LF LG LH K LF.Reader_.place_.at_ ([] : List Int)
def ze.j2 (K : Nat) (LH : qA) (LG : Int) (LN : Int) (LJ : Int) (LI : (List Int)) : qS ((Option qK) × (Option qK) × Int) :=
  (zL.m K (LI == ([0, 0, 0, 0, 0, 0, 0, 0, 0, 0, 0, 0, 0, 0, 0, 0, 0, 0, 0] : List Int)) (3 : Int)).bind fun _ =>
  (yi.m K LI).bind fun LO =>
  Dn LO fun LP =>
  (qT.m K (qA.mk (qL.mk (qt.mk LJ) LH.Reader_.text_) LH.out_ LH.limit_) (qh (LG + LN)) LP).bind fun (LF, LK) =>
  chk (inb (256 : Int) LF.length) <|
  (zL.m K ((rd LF (256 : Int)) == (0 : Int)) (3 : Int)).bind fun _ =>
  chk (subok (0 : Int) LG LF.length) <|
  lt (sub LF (0 : Int) LG) fun (LL : (List Int)) =>
  chk (subok LG (LF.length : Int) LF.length) <|
  lt (sub LF LG (LF.length : Int)) fun (LM : (List Int)) =>
  (yi.m K LL).bind fun LQ =>
  (yi.m K LM).bind fun LR =>
  .ok (LQ, LR, LK)
def ze.l1 (K : Nat) (LG : qA) (LJ : Int) (LL : Int) (LF : Int) : Nat → Int → (List Int) → Int → qS ((Option qK) × (Option qK) × Int)
  | 0, _, _, _ => .fail
  | k + 1, LI, LK, LH =>
    cond (decide (LH < (19 : Int)))
      (
      chk (inb LH 19) <|
      lt ((rd tab_inflate_order LH)) fun (LN : Int) =>
      cond (decide (LH < LF))
        (
        (zQ.m K (qA.mk (qL.mk (qt.mk LI) LG.Reader_.text_) LG.out_ LG.limit_) (3 : Int)).bind fun (LP, LM) =>
        chk (inb LN 19) <|
        lt (LK.set (Int.toNat LN) LP) fun (LO : (List Int)) =>
        ze.l1 K LG LJ LL LF k LM LO (qh (LH + (1 : Int))))
        (
        ze.l1 K LG LJ LL LF k LI LK (qh (LH + (1 : Int)))))
      (
      ze.j2 K LG LJ LL LI LK)
def ze.m (K : Nat) (LF : qA) : qS ((Option qK) × (Option qK) × Int) :=
  (zQ.m K LF (5 : Int)).bind fun (LM, LI) =>
  (zQ.m K (qA.mk (qL.mk (qt.mk LI) LF.Reader_.text_) LF.out_ LF.limit_) (5 : Int)).bind fun (LN, LJ) =>
  lt ((qh (LM + (257 : Int)))) fun (LH : Int) =>
  lt ((qh (LN + (1 : Int)))) fun (LL : Int) =>
  (zQ.m K (qA.mk (qL.mk (qt.mk LJ) LF.Reader_.text_) LF.out_ LF.limit_) (4 : Int)).bind fun (LO, LK) =>
  lt ((qh (LO + (4 : Int)))) fun (LG : Int) =>
  (zL.m K ((decide (LH > (286 : Int))) || (decide (LL > (30 : Int)))) (3 : Int)).bind fun _ =>
  ze.l1 K LF LH LL LG K LK (List.replicate 19 (0 : Int)) (0 : Int)
def yl.m (K : Nat) (LF : qA) : qS (Bool × Int × (List Int)) :=
  (zQ.m K LF (1 : Int)).bind fun (LR, LJ) =>
  lt ((LR == (1 : Int))) fun (LG : Bool) =>
  (zQ.m K (qA.mk (qL.mk (qt.mk LJ) LF.Reader_.text_) LF.out_ LF.limit_) (2 : Int)).bind fun (LI, LH) =>
  lt ((LI == (0 : Int))) fun (LS : Bool) =>
  cond LS
    (
    (ya.m K (qA.mk (qL.mk (qt.mk LH) LF.Reader_.text_) LF.out_ LF.limit_)).bind fun (LK, LL) =>
    .ok (LG, LK, LL))
    (
    lt ((LI == (1 : Int))) fun (LT : Bool) =>
    cond LT
      (
      (zv.m K).bind fun (LU, LV) =>
      Dn LU fun LW =>
      Dn LV fun LX =>
      (qZ.m K (qA.mk (qL.mk (qt.mk LH) LF.Reader_.text_) LF.out_ LF.limit_) LW LX).bind fun (LM, LN) =>
      .ok (LG, LM, LN))
      (
      lt ((LI == (2 : Int))) fun (LY : Bool) =>
      cond LY
        (
        (ze.m K (qA.mk (qL.mk (qt.mk LH) LF.Reader_.text_) LF.out_ LF.limit_)).bind fun (LZ, L0, LO) =>
        Dn LZ fun L1 =>
        Dn L0 fun L3 =>
        (qZ.m K (qA.mk (qL.mk (qt.mk LO) LF.Reader_.text_) LF.out_ LF.limit_) L1 L3).bind fun (LP, LQ) =>
        .ok (LG, LP, LQ))
        (
        (zL.m K true (3 : Int)).bind fun _ =>
        .ok (LG, LH, LF.out_))))
def vF.m (K : Nat) (LF : qL) : qS Unit :=
  .ok ()
def zD.h1 (K : Nat)  (LF : Value) : qS ((List UInt8) × Int × Int) :=
  Dn (GX xC .i64 LF) fun LG =>
  .ok (([] : List UInt8), (0 : Int), LG)
def zD.j4 (K : Nat) (LH : List UInt8) (LF : Int) (LG : (List Int)) : qS ((List UInt8) × Int × Int) :=
  (vF.m K (qL.mk (qt.mk LF) LH)).bind fun _ =>
  .ok ((LG.map QU), (yD .i64 (qh (LF + (7 : Int))) (8 : Int)), (0 : Int))
def zD.l3 (K : Nat) (LI : List UInt8) (LF : Int) : Nat → Int → (List Int) → qS ((List UInt8) × Int × Int)
  | 0, _, _ => .fail
  | k + 1, LJ, LK =>
    (yl.m K (qA.mk (qL.mk (qt.mk LJ) LI) LK LF)).bind fun (LL, LG, LH) =>
    cond (!LL)
      (
      zD.l3 K LI LF k LG LH)
      (
      zD.j4 K LI LG LH)
def zD.j2 (K : Nat) (LG : List UInt8) (LF : Int) : qS ((List UInt8) × Int × Int) :=
  (Q2.m K LG).bind fun _ =>
  zD.l3 K LG LF K (0 : Int) ([] : List Int)
def zD.m (K : Nat) (LG : List UInt8) (LF : Int) : qS ((List UInt8) × Int × Int) :=
  cond ((decide (LF < (0 : Int))) || (decide (LF > (1073741824 : Int))))
    (
    .ok (([] : List UInt8), (0 : Int), (1 : Int)))
    (
    (zD.j2 K LG LF).catch (zD.h1 K))
def zU.j1 (K : Nat)  (LF : Bool) : qS Bool :=
  .ok LF
def zU.m (K : Nat) (LF : List UInt8) : qS Bool :=
  cond (decide ((LF.length : Int) > (100000 : Int)))
    (
    (xr.m K).bind fun LH =>
    .ok LH)
    (
    (zZ.m K LF).bind fun LG =>
    (zD.m K LG (LF.length : Int)).bind fun (LI, LJ, LK) =>
    cond ((((LI == LF) && (LJ == (LG.length : Int))) && (LK == (0 : Int))) && (decide ((LG.length : Int) ≤ (qh ((LF.length : Int) + (qh ((5 : Int) * (qh ((1 : Int) + (yD .i64 (LF.length : Int) (65535 : Int)))))))))))
      (
      (xr.m K).bind fun LL =>
      zU.j1 K LL)
      (
      zU.j1 K false))
end Go.Mo
