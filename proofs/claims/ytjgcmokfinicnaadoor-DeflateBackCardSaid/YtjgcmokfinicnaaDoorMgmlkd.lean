/- Models of the Go functions that this statement reaches, printed by a program of mine: nothing is proved but lengths of tables. -/
import Derived.Test.YtjgcmokfinicnaaDoorOwnchlkf
set_option linter.unusedVariables false
set_option linter.unusedSimpArgs false
namespace Go.Mo
open Go Go.Sl
structure qv where
  Lit_ : Int
  Len_ : Int
  Dist_ : Int
  deriving Inhabited
structure qW where
  at_ : Int
  deriving Inhabited
structure qR where
  place_ : qW
  bytes_ : (List Int)
  deriving Inhabited
structure qu where
  lengths_ : (List Int)
  codes_ : (List Int)
  deriving Inhabited
structure qp where
  Writer_ : qR
  literals_ : qu
  distances_ : qu
  deriving Inhabited
structure xV where
  symbol_ : Int
  bits_ : Int
  more_ : Int
  deriving Inhabited
structure qb where
  often_ : Int
  symbols_ : (List Int)
  deriving Inhabited
structure qh where
  symbol_ : Int
  more_ : Int
  bits_ : Int
  deriving Inhabited
structure xo where
  text_ : List UInt8
  seen_ : (List ((List Int) × (List Int)))
  deriving Inhabited
structure qQ where
  B_ : (List Int)
  deriving Inhabited
structure qj where
  S_ : List UInt8
  At_ : Int
  deriving Inhabited
structure qr where
  r_ : qj
  out_ : (List Int)
  limit_ : Int
  deriving Inhabited
structure zp where
  l_ : (List Int)
  codes_ : (List Int)
  deriving Inhabited
structure Ye where
  place_ : qW
  text_ : List UInt8
  deriving Inhabited
structure Uz where
  Reader_ : Ye
  out_ : (List Int)
  limit_ : Int
  deriving Inhabited
structure uQ where
  counts_ : (List Int)
  symbols_ : (List Int)
  deriving Inhabited
structure QO where
  from_ : Int
  bits_ : Int
  deriving Inhabited
abbrev QI : TypeId := 9
abbrev uv : TypeId := 94
def tab_deflate_order : List Int := [16, 17, 18, 0, 8, 7, 9, 6, 10, 5, 11, 4, 12, 3, 13, 2, 14, 1, 15]
theorem Qi : tab_deflate_order.length = 19 := by decide
def tab_inflate_lengths : List QO := [⟨3, 0⟩, ⟨4, 0⟩, ⟨5, 0⟩, ⟨6, 0⟩, ⟨7, 0⟩, ⟨8, 0⟩, ⟨9, 0⟩, ⟨10, 0⟩, ⟨11, 1⟩, ⟨13, 1⟩, ⟨15, 1⟩, ⟨17, 1⟩, ⟨19, 2⟩, ⟨23, 2⟩, ⟨27, 2⟩, ⟨31, 2⟩, ⟨35, 3⟩, ⟨43, 3⟩, ⟨51, 3⟩, ⟨59, 3⟩, ⟨67, 4⟩, ⟨83, 4⟩, ⟨99, 4⟩, ⟨115, 4⟩, ⟨131, 5⟩, ⟨163, 5⟩, ⟨195, 5⟩, ⟨227, 5⟩, ⟨258, 0⟩]
def tab_inflate_distances : List QO := [⟨1, 0⟩, ⟨2, 0⟩, ⟨3, 0⟩, ⟨4, 0⟩, ⟨5, 1⟩, ⟨7, 1⟩, ⟨9, 2⟩, ⟨13, 2⟩, ⟨17, 3⟩, ⟨25, 3⟩, ⟨33, 4⟩, ⟨49, 4⟩, ⟨65, 5⟩, ⟨97, 5⟩, ⟨129, 6⟩, ⟨193, 6⟩, ⟨257, 7⟩, ⟨385, 7⟩, ⟨513, 8⟩, ⟨769, 8⟩, ⟨1025, 9⟩, ⟨1537, 9⟩, ⟨2049, 10⟩, ⟨3073, 10⟩, ⟨4097, 11⟩, ⟨6145, 11⟩, ⟨8193, 12⟩, ⟨12289, 12⟩, ⟨16385, 13⟩, ⟨24577, 13⟩]
def Zo : List Int := [16, 17, 18, 0, 8, 7, 9, 6, 10, 5, 11, 4, 12, 3, 13, 2, 14, 1, 15]
def vV.m (K : Nat) (LB : qv) : qN Bool :=
  cond (LB.Dist_ == (0 : Int))
    (
    lt ((LB.Len_ == (0 : Int))) fun (LC : Bool) =>
    .ok LC)
    (
    lt ((((((decide (LB.Dist_ > (0 : Int))) && (decide (LB.Dist_ ≤ (32768 : Int)))) && (decide (LB.Len_ ≥ (3 : Int)))) && (decide (LB.Len_ ≤ (258 : Int)))) && (LB.Lit_ == (0 : Int)))) fun (LD : Bool) =>
    .ok LD)
def yg.l1 (K : Nat) (LB : Int) : Nat → Int → Int → qN Int
  | 0, _, _ => .fail
  | k + 1, LD, LC =>
    chk (decide (0 ≤ LB)) <|
    cond (decide (LD ≥ (xl .i64 (2 : Int) LB)))
      (
      lt ((xF .i64 LD (1 : Int))) fun (LF : Int) =>
      lt ((qi (LC + (1 : Int)))) fun (LE : Int) =>
      yg.l1 K LB k LF LE)
      (
      .ok LC)
def yg.m (K : Nat) (LC : Int) (LB : Int) : qN Int :=
  yg.l1 K LB K LC (0 : Int)
def yH.m (K : Nat) (LB : Int) : qN Int :=
  lt ((LB == (258 : Int))) fun (LC : Bool) =>
  cond LC
    (
    .ok (8 : Int))
    (
    lt ((decide (LB ≥ (115 : Int)))) fun (LD : Bool) =>
    cond LD
      (
      (yg.m K (qi (LB - (3 : Int))) (2 : Int)).bind fun LG =>
      lt ((qi ((8 : Int) + LG))) fun (LE : Int) =>
      .ok LE)
      (
      (yg.m K (qi (LB - (3 : Int))) (2 : Int)).bind fun LH =>
      lt ((qi ((7 : Int) + LH))) fun (LF : Int) =>
      .ok LF))
def x8.l1 (K : Nat) (LB : List qv) : Nat → Int → Int → qN (Int × Int)
  | 0, _, _ => .fail
  | k + 1, LD, LC =>
    cond (decide (LC < (LB.length : Int)))
      (
      chk (inb LC LB.length) <|
      (vV.m K (qv.mk ((rd LB LC).Lit_) ((rd LB LC).Len_) ((rd LB LC).Dist_))).bind fun LK =>
      lt ((!LK)) fun (LH : Bool) =>
      cond LH
        (
        .ok ((0 : Int), (1 : Int)))
        (
        lt ((((rd LB LC).Dist_ == (0 : Int)) && (decide ((rd LB LC).Lit_ < (144 : Int))))) fun (LI : Bool) =>
        cond LI
          (
          lt ((qi (LD + (8 : Int)))) fun (LE : Int) =>
          x8.l1 K LB k LE (qi (LC + (1 : Int))))
          (
          lt (((rd LB LC).Dist_ == (0 : Int))) fun (LJ : Bool) =>
          cond LJ
            (
            lt ((qi (LD + (9 : Int)))) fun (LF : Int) =>
            x8.l1 K LB k LF (qi (LC + (1 : Int))))
            (
            (yH.m K ((rd LB LC).Len_)).bind fun LL =>
            (yg.m K (qi ((rd LB LC).Dist_ - (1 : Int))) (1 : Int)).bind fun LM =>
            lt ((qi (LD + (qi ((qi (LL + (5 : Int))) + LM))))) fun (LG : Int) =>
            x8.l1 K LB k LG (qi (LC + (1 : Int)))))))
      (
      .ok (LD, (0 : Int)))
def x8.m (K : Nat) (LB : List qv) : qN (Int × Int) :=
  x8.l1 K LB K (7 : Int) (0 : Int)
def ji.m (K : Nat) (LB : List qv) : qN Bool :=
  (x8.m K LB).bind fun (LE, LD) =>
  lt ((LD == (0 : Int))) fun (LC : Bool) =>
  .ok LC
def xk.j2 (K : Nat)  (LB : (List Int)) : qN ((List Int) × Bool) :=
  lt (LB.set (Int.toNat (0 : Int)) (0 : Int)) fun (LC : (List Int)) =>
  .ok (LC, true)
def xk.l1 (K : Nat) (LB : List Int) : Nat → (List Int) → Int → qN ((List Int) × Bool)
  | 0, _, _ => .fail
  | k + 1, LD, LE =>
    cond (decide (LE < (LB.length : Int)))
      (
      chk (inb LE LB.length) <|
      lt ((rd LB LE)) fun (LC : Int) =>
      cond ((decide (LC < (0 : Int))) || (decide (LC > (15 : Int))))
        (
        .ok (LD, false))
        (
        chk (inb LC 16) <|
        lt (LD.set (Int.toNat LC) (qi ((rd LD LC) + (1 : Int)))) fun (LF : (List Int)) =>
        xk.l1 K LB k LF (qi (LE + (1 : Int)))))
      (
      xk.j2 K LD)
def xk.m (K : Nat) (LB : List Int) : qN ((List Int) × Bool) :=
  cond (decide ((LB.length : Int) > (320 : Int)))
    (
    .ok ((List.replicate 16 (0 : Int)), false))
    (
    xk.l1 K LB K (List.replicate 16 (0 : Int)) (0 : Int))
def xw.j2 (K : Nat) (LC : (List Int)) (LB : Int) : qN Int :=
  cond (((LB == (0 : Int)) || (LB == (32768 : Int))) || (LC == ([0, (1 : Int), 0, 0, 0, 0, 0, 0, 0, 0, 0, 0, 0, 0, 0, 0] : List Int)))
    (
    .ok (0 : Int))
    (
    .ok (3 : Int))
def xw.l1 (K : Nat) (LE : (List Int)) : Nat → Int → Int → qN Int
  | 0, _, _ => .fail
  | k + 1, LC, LB =>
    cond (decide (LB < (16 : Int)))
      (
      chk (inb LB 16) <|
      lt ((rd LE LB)) fun (LF : Int) =>
      chk (decide (0 ≤ LB)) <|
      lt ((qi (LC + (qi (LF * (xF .i64 (32768 : Int) LB)))))) fun (LD : Int) =>
      xw.l1 K LE k LD (qi (LB + (1 : Int))))
      (
      xw.j2 K LE LC)
def xw.m (K : Nat) (LB : List Int) : qN Int :=
  (xk.m K LB).bind fun (LC, LD) =>
  cond (!LD)
    (
    .ok (1 : Int))
    (
    xw.l1 K LC K (0 : Int) (0 : Int))
def zS.j2 (K : Nat)  (LB : (List Int)) : qN (List Int) :=
  .ok LB
def zS.l1 (K : Nat) (LF : List Int) : Nat → (List Int) → Int → Int → qN (List Int)
  | 0, _, _, _ => .fail
  | k + 1, LC, LE, LB =>
    cond (decide (LB ≤ (15 : Int)))
      (
      chk (inb (qi (LB - (1 : Int))) 16) <|
      lt ((xl .i64 (qi (LE + (rd LF (qi (LB - (1 : Int)))))) (1 : Int))) fun (LD : Int) =>
      chk (inb LB 16) <|
      lt (LC.set (Int.toNat LB) LD) fun (LH : (List Int)) =>
      lt ((qi (LB + (1 : Int)))) fun (LG : Int) =>
      zS.l1 K LF k LH LD LG)
      (
      zS.j2 K LC)
def zS.m (K : Nat) (LB : List Int) : qN (List Int) :=
  zS.l1 K LB K (List.replicate 16 (0 : Int)) (0 : Int) (1 : Int)
def yf.l1 (K : Nat) (LB : List Int) : Nat → (List Int) → (List Int) → Int → qN ((List Int) × Int)
  | 0, _, _, _ => .fail
  | k + 1, LC, LD, LF =>
    cond (decide (LF < (LB.length : Int)))
      (
      chk (inb LF LB.length) <|
      lt ((rd LB LF)) fun (LE : Int) =>
      cond (decide (LE > (0 : Int)))
        (
        chk (inb LE 16) <|
        chk (inb LF LD.length) <|
        lt (LD.set (Int.toNat LF) (rd LC LE)) fun (LG : (List Int)) =>
        lt (LC.set (Int.toNat LE) (qi ((rd LC LE) + (1 : Int)))) fun (LH : (List Int)) =>
        yf.l1 K LB k LH LG (qi (LF + (1 : Int))))
        (
        yf.l1 K LB k LC LD (qi (LF + (1 : Int)))))
      (
      .ok (LD, (0 : Int)))
def yf.m (K : Nat) (LB : List Int) : qN ((List Int) × Int) :=
  (xw.m K LB).bind fun LC =>
  cond (LC != (0 : Int))
    (
    .ok (([] : List Int), LC))
    (
    (xk.m K LB).bind fun (LE, LG) =>
    (zS.m K LE).bind fun LF =>
    chk (decide (0 ≤ (LB.length : Int)) && room (Int.toNat (LB.length : Int)) 8) <|
    lt (List.replicate (Int.toNat (LB.length : Int)) (0 : Int)) fun (LD : (List Int)) =>
    yf.l1 K LB K LF LD (0 : Int))
def yh.m (K : Nat) (LB : List Int) : qN (List Int) :=
  (yf.m K LB).bind fun (LC, LD) =>
  .ok LC
def q8.j4 (K : Nat) (LD : (List Int)) (LE : (List Int)) : qN ((List Int) × (List Int) × (List Int) × (List Int)) :=
  (yh.m K LD).bind fun LB =>
  (yh.m K LE).bind fun LC =>
  .ok (LD, LB, LE, LC)
def q8.l3 (K : Nat) (LC : (List Int)) (LD : (List Int)) : Nat → (List Int) → Int → qN ((List Int) × (List Int) × (List Int) × (List Int))
  | 0, _, _ => .fail
  | k + 1, LE, LB =>
    cond (decide (LB < (LD.length : Int)))
      (
      chk (inb LB LE.length) <|
      lt (LE.set (Int.toNat LB) (5 : Int)) fun (LF : (List Int)) =>
      q8.l3 K LC LD k LF (qi (LB + (1 : Int))))
      (
      q8.j4 K LC LE)
def q8.j2 (K : Nat)  (LC : (List Int)) : qN ((List Int) × (List Int) × (List Int) × (List Int)) :=
  chk (decide (0 ≤ (32 : Int)) && room (Int.toNat (32 : Int)) 8) <|
  lt (List.replicate (Int.toNat (32 : Int)) (0 : Int)) fun (LB : (List Int)) =>
  q8.l3 K LC LB K LB (0 : Int)
def q8.l1 (K : Nat) (LD : (List Int)) : Nat → (List Int) → Int → qN ((List Int) × (List Int) × (List Int) × (List Int))
  | 0, _, _ => .fail
  | k + 1, LC, LB =>
    cond (decide (LB < (LD.length : Int)))
      (
      lt (((decide (LB < (144 : Int))) || (decide (LB ≥ (280 : Int))))) fun (LH : Bool) =>
      cond LH
        (
        chk (inb LB LC.length) <|
        lt (LC.set (Int.toNat LB) (8 : Int)) fun (LE : (List Int)) =>
        q8.l1 K LD k LE (qi (LB + (1 : Int))))
        (
        lt ((decide (LB < (256 : Int)))) fun (LI : Bool) =>
        cond LI
          (
          chk (inb LB LC.length) <|
          lt (LC.set (Int.toNat LB) (9 : Int)) fun (LF : (List Int)) =>
          q8.l1 K LD k LF (qi (LB + (1 : Int))))
          (
          chk (inb LB LC.length) <|
          lt (LC.set (Int.toNat LB) (7 : Int)) fun (LG : (List Int)) =>
          q8.l1 K LD k LG (qi (LB + (1 : Int))))))
      (
      q8.j2 K LC)
def q8.m (K : Nat) : qN ((List Int) × (List Int) × (List Int) × (List Int)) :=
  chk (decide (0 ≤ (288 : Int)) && room (Int.toNat (288 : Int)) 8) <|
  lt (List.replicate (Int.toNat (288 : Int)) (0 : Int)) fun (LB : (List Int)) =>
  q8.l1 K LB K LB (0 : Int)
def qn.j2 (K : Nat) (g1 : Int → (List Int) → Int → Int → qN (Int × Int × (List Int))) (LB : Int) (LG : Int) (LE : Int) (LD : (List Int)) : qN (Int × Int × (List Int)) :=
  lt ((if LE < (qi ((8 : Int) - (ye .i64 LB (7 : Int)))) then LE else (qi ((8 : Int) - (ye .i64 LB (7 : Int)))))) fun (LC : Int) =>
  chk (inb (xA .i64 LB (8 : Int)) LD.length) <|
  chk (decide (0 ≤ LC)) <|
  chk (decide (0 ≤ (ye .i64 LB (7 : Int)))) <|
  lt (LD.set (Int.toNat (xA .i64 LB (8 : Int))) (BV .u8 (rd LD (xA .i64 LB (8 : Int))) (xl .u8 (wr .u8 (ye .u32 LG (wr .u32 ((xl .u32 (1 : Int) LC) - (1 : Int))))) (ye .i64 LB (7 : Int))))) fun (LH : (List Int)) =>
  lt ((xF .u32 LG LC)) fun (LI : Int) =>
  lt ((qi (LE - LC))) fun (LF : Int) =>
  g1 (qi (LB + LC)) LH LI LF
def qn.l1 (K : Nat)  : Nat → Int → (List Int) → Int → Int → qN (Int × Int × (List Int))
  | 0, _, _, _, _ => .fail
  | k + 1, LC, LB, LE, LD =>
    cond (decide (LD > (0 : Int)))
      (
      cond ((ye .i64 LC (7 : Int)) == (0 : Int))
        (
        chk (room (LB.length + ([(0 : Int)] : List Int).length) 1) <|
        lt (LB ++ ([(0 : Int)] : List Int)) fun (LF : (List Int)) =>
        qn.j2 K (qn.l1 K k) LC LE LD LF)
        (
        qn.j2 K (qn.l1 K k) LC LE LD LB))
      (
      .ok ((0 : Int), LC, LB))
def qn.m (K : Nat) (LC : qp) (LD : Int) (LB : Int) : qN (Int × Int × (List Int)) :=
  chk (imp false ((decide (LB < (0 : Int))) || (decide (LB > (32 : Int)))) (decide (0 ≤ LB))) <|
  cond (((decide (LB < (0 : Int))) || (decide (LB > (32 : Int)))) || (decide ((xF .u64 (wr .u64 LD) LB) > (0 : Int))))
    (
    .ok ((1 : Int), LC.Writer_.place_.at_, LC.Writer_.bytes_))
    (
    qn.l1 K K LC.Writer_.place_.at_ LC.Writer_.bytes_ LD LB)
def zU.l1 (K : Nat) (LC : qp) (LH : Int) : Nat → Int → (List Int) → Int → qN (Int × (List Int))
  | 0, _, _, _ => .fail
  | k + 1, LD, LB, LF =>
    cond (decide (LF ≥ (0 : Int)))
      (
      chk (inb LH LC.literals_.codes_.length) <|
      chk (decide (0 ≤ LF)) <|
      (qn.m K (qp.mk (qR.mk (qW.mk LD) LB) LC.literals_ LC.distances_) (wr .u32 (ye .i64 (xF .i64 (rd LC.literals_.codes_ LH) LF) (1 : Int))) (1 : Int)).bind fun (LJ, LG, LE) =>
      lt ((qi (LF - (1 : Int)))) fun (LI : Int) =>
      zU.l1 K LC LH k LG LE LI)
      (
      .ok (LD, LB))
def zU.m (K : Nat) (LB : qp) (LE : qu) (LC : Int) : qN (Int × (List Int)) :=
  chk (inb LC LB.literals_.lengths_.length) <|
  lt ((qi ((rd LB.literals_.lengths_ LC) - (1 : Int)))) fun (LD : Int) =>
  zU.l1 K LB LC K LB.Writer_.place_.at_ LB.Writer_.bytes_ LD
def xd.j2 (K : Nat) (LE : Int) (LC : Int) (LB : Int) (LD : Int) : qN (Int × Int × Int) :=
  chk (decide (0 ≤ LC)) <|
  chk (decide (0 ≤ LB)) <|
  .ok ((qi ((xl .i64 LB LC) + LD)), LB, (wr .u32 (qi (LE - (xl .i64 LD LB)))))
def xd.l1 (K : Nat) (LE : Int) (LB : Int) : Nat → Int → Int → qN (Int × Int × Int)
  | 0, _, _ => .fail
  | k + 1, LD, LC =>
    chk (decide (0 ≤ LB)) <|
    cond (decide (LC ≥ (xl .i64 (2 : Int) LB)))
      (
      lt ((xF .i64 LC (1 : Int))) fun (LF : Int) =>
      lt ((qi (LD + (1 : Int)))) fun (LG : Int) =>
      xd.l1 K LE LB k LG LF)
      (
      xd.j2 K LE LB LD LC)
def xd.m (K : Nat) (LC : Int) (LB : Int) : qN (Int × Int × Int) :=
  xd.l1 K LC LB K (0 : Int) LC
def yG.m (K : Nat) (LE : Int) : qN (Int × Int × Int) :=
  cond (LE == (258 : Int))
    (
    .ok ((285 : Int), (0 : Int), (0 : Int)))
    (
    (xd.m K (qi (LE - (3 : Int))) (2 : Int)).bind fun (LB, LC, LD) =>
    .ok ((qi (LB + (257 : Int))), LC, LD))
def yi.m (K : Nat) (LB : qp) (LH : qu) (LG : xV) : qN (Int × (List Int)) :=
  (zU.m K LB LB.literals_ LG.symbol_).bind fun (LE, LC) =>
  (qn.m K (qp.mk (qR.mk (qW.mk LE) LC) LB.literals_ LB.distances_) LG.more_ LG.bits_).bind fun (LI, LF, LD) =>
  .ok (LF, LD)
def yv.m (K : Nat) (LE : Int) : qN (Int × Int × Int) :=
  (xd.m K (qi (LE - (1 : Int))) (1 : Int)).bind fun (LB, LC, LD) =>
  .ok (LB, LC, LD)
def xb.l1 (K : Nat) (LC : qp) (LH : Int) : Nat → Int → (List Int) → Int → qN (Int × (List Int))
  | 0, _, _, _ => .fail
  | k + 1, LD, LB, LE =>
    cond (decide (LE ≥ (0 : Int)))
      (
      chk (inb LH LC.distances_.codes_.length) <|
      chk (decide (0 ≤ LE)) <|
      (qn.m K (qp.mk (qR.mk (qW.mk LD) LB) LC.literals_ LC.distances_) (wr .u32 (ye .i64 (xF .i64 (rd LC.distances_.codes_ LH) LE) (1 : Int))) (1 : Int)).bind fun (LJ, LG, LF) =>
      lt ((qi (LE - (1 : Int)))) fun (LI : Int) =>
      xb.l1 K LC LH k LG LF LI)
      (
      .ok (LD, LB))
def xb.m (K : Nat) (LB : qp) (LE : qu) (LC : Int) : qN (Int × (List Int)) :=
  chk (inb LC LB.distances_.lengths_.length) <|
  lt ((qi ((rd LB.distances_.lengths_ LC) - (1 : Int)))) fun (LD : Int) =>
  xb.l1 K LB LC K LB.Writer_.place_.at_ LB.Writer_.bytes_ LD
def yj.m (K : Nat) (LB : qp) (LH : qu) (LG : xV) : qN (Int × (List Int)) :=
  (xb.m K LB LB.distances_ LG.symbol_).bind fun (LE, LC) =>
  (qn.m K (qp.mk (qR.mk (qW.mk LE) LC) LB.literals_ LB.distances_) LG.more_ LG.bits_).bind fun (LI, LF, LD) =>
  .ok (LF, LD)
def zj.j2 (K : Nat) (LD : qp) (LE : Int) (LB : (List Int)) : qN (Int × (List Int)) :=
  (zU.m K (qp.mk (qR.mk (qW.mk LE) LB) LD.literals_ LD.distances_) LD.literals_ (256 : Int)).bind fun (LF, LC) =>
  .ok (LF, LC)
def zj.l1 (K : Nat) (LB : qp) (LD : List qv) : Nat → Int → (List Int) → Int → qN (Int × (List Int))
  | 0, _, _, _ => .fail
  | k + 1, LF, LC, LE =>
    cond (decide (LE < (LD.length : Int)))
      (
      chk (inb LE LD.length) <|
      cond ((rd LD LE).Dist_ == (0 : Int))
        (
        (zU.m K (qp.mk (qR.mk (qW.mk LF) LC) LB.literals_ LB.distances_) LB.literals_ (wr .i64 (rd LD LE).Lit_)).bind fun (LP, LI) =>
        zj.l1 K LB LD k LP LI (qi (LE + (1 : Int))))
        (
        (yG.m K ((rd LD LE).Len_)).bind fun (LG, LL, LN) =>
        (yi.m K (qp.mk (qR.mk (qW.mk LF) LC) LB.literals_ LB.distances_) LB.literals_ (xV.mk LG LL LN)).bind fun (LQ, LJ) =>
        (yv.m K ((rd LD LE).Dist_)).bind fun (LH, LM, LO) =>
        (yj.m K (qp.mk (qR.mk (qW.mk LQ) LJ) LB.literals_ LB.distances_) LB.distances_ (xV.mk LH LM LO)).bind fun (LR, LK) =>
        zj.l1 K LB LD k LR LK (qi (LE + (1 : Int)))))
      (
      zj.j2 K LB LF LC)
def zj.m (K : Nat) (LB : qp) (LC : List qv) : qN (Int × (List Int)) :=
  zj.l1 K LB LC K LB.Writer_.place_.at_ LB.Writer_.bytes_ (0 : Int)
def z5.m (K : Nat) (LB : qp) : qN (List UInt8) :=
  lt ((LB.Writer_.bytes_.map Q5)) fun (LC : List UInt8) =>
  .ok LC
def yA.m (K : Nat) (l_7 : List qv) : qN ((List UInt8) × Int) :=
  (ji.m K l_7).bind fun LL =>
  cond (!LL)
    (
    .ok (([] : List UInt8), (1 : Int)))
    (
    (q8.m K).bind fun (LB, LD, LC, LE) =>
    (qn.m K (qp.mk (qR.mk (qW.mk (0 : Int)) ([] : List Int)) (qu.mk LB LD) (qu.mk LC LE)) (3 : Int) (3 : Int)).bind fun (LK, LI, LG) =>
    (zj.m K (qp.mk (qR.mk (qW.mk LI) LG) (qu.mk LB LD) (qu.mk LC LE)) l_7).bind fun (LH, LF) =>
    (z5.m K (qp.mk (qR.mk (qW.mk LH) LF) (qu.mk LB LD) (qu.mk LC LE))).bind fun LJ =>
    .ok (LJ, (0 : Int)))
def jF.m (K : Nat) (LB : Int) : qN Bool :=
  lt (((decide (LB < (0 : Int))) || (decide (LB > (1099511627776 : Int))))) fun (LC : Bool) =>
  .ok LC
def zG.l1 (K : Nat) (LC : List Int) : Nat → Int → qN Int
  | 0, _ => .fail
  | k + 1, LB =>
    cond (decide (LB < (LC.length : Int)))
      (
      chk (inb LB LC.length) <|
      (jF.m K (rd LC LB)).bind fun LD =>
      cond LD
        (
        .ok LB)
        (
        zG.l1 K LC k (qi (LB + (1 : Int)))))
      (
      .ok (-1 : Int))
def zG.m (K : Nat) (LB : List Int) : qN Int :=
  zG.l1 K LB K (0 : Int)
def xy.m (K : Nat) (LB : List Int) : qN Bool :=
  (zG.m K LB).bind fun LD =>
  lt ((decide (LD ≥ (0 : Int)))) fun (LC : Bool) =>
  .ok LC
def y6.m (K : Nat) (LB : Int) : qN Bool :=
  lt ((LB != LB)) fun (LC : Bool) =>
  .ok LC
def yF.m (K : Nat) (LB : Int) (LC : Int) : qN Int :=
  (y6.m K LB).bind fun LE =>
  (y6.m K LC).bind fun LD =>
  cond LE
    (
    cond LD
      (
      .ok (0 : Int))
      (
      .ok (-1 : Int)))
    (
    cond LD
      (
      .ok (1 : Int))
      (
      cond (decide (LB < LC))
        (
        .ok (-1 : Int))
        (
        cond (decide (LB > LC))
          (
          .ok (1 : Int))
          (
          .ok (0 : Int)))))
def xN.m (K : Nat) (LB : qb) (LD : qb) : qN Int :=
  (yF.m K LB.often_ LD.often_).bind fun LC =>
  .ok LC
def qd.j3 (K : Nat) (g1 : (List qb) → Int → qN (List qb)) (g2 : (List qb) → Int → qN (List qb)) (LF : Int) (LB : (List qb)) (LC : Int) (LI : Bool) : qN (List qb) :=
  cond LI
    (
    chk (inb (qi (LC - (1 : Int))) LB.length) <|
    chk (inb LC LB.length) <|
    lt (LB.set (Int.toNat LC) (qb.mk ((rd LB (qi (LC - (1 : Int)))).often_) ((rd LB (qi (LC - (1 : Int)))).symbols_))) fun (LD : (List qb)) =>
    chk (inb (qi (LC - (1 : Int))) LD.length) <|
    lt (LD.set (Int.toNat (qi (LC - (1 : Int)))) (qb.mk ((rd LB LC).often_) ((rd LB LC).symbols_))) fun (LE : (List qb)) =>
    lt ((qi (LC - (1 : Int)))) fun (LH : Int) =>
    g2 LE LH)
    (
    lt ((qi (LF + (1 : Int)))) fun (LG : Int) =>
    g1 LB LG)
def qd.l2 (K : Nat) (g1 : (List qb) → Int → qN (List qb)) (LD : Int) (LE : Int) : Nat → (List qb) → Int → qN (List qb)
  | 0, _, _ => .fail
  | k + 1, LB, LC =>
    cond (decide (LC > LD))
      (
      chk (inb LC LB.length) <|
      chk (inb (qi (LC - (1 : Int))) LB.length) <|
      (xN.m K (qb.mk ((rd LB LC).often_) ((rd LB LC).symbols_)) (qb.mk ((rd LB (qi (LC - (1 : Int)))).often_) ((rd LB (qi (LC - (1 : Int)))).symbols_))).bind fun LF =>
      qd.j3 K (g1) (qd.l2 K g1 LD LE k) LE LB LC (decide (LF < (0 : Int))))
      (
      qd.j3 K (g1) (qd.l2 K g1 LD LE k) LE LB LC false)
def qd.l1 (K : Nat) (LC : Int) (LD : Int) : Nat → (List qb) → Int → qN (List qb)
  | 0, _, _ => .fail
  | k + 1, LB, LE =>
    cond (decide (LE < LD))
      (
      qd.l2 K (qd.l1 K LC LD k) LC LE K LB LE)
      (
      .ok LB)
def qd.m (K : Nat) (LC : List qb) (LB : Int) (LD : Int) : qN (List qb) :=
  lt ((qi (LB + (1 : Int)))) fun (LE : Int) =>
  qd.l1 K LB LD K LC LE
def qI.l1 (K : Nat) (LE : Int) (LD : Int) (LF : Int) : Nat → (List qb) → Int → qN (List qb)
  | 0, _, _ => .fail
  | k + 1, LB, LC =>
    cond (decide (LC < LF))
      (
      chk (inb (qi (LD + LC)) LB.length) <|
      chk (inb (qi (LE + LC)) LB.length) <|
      lt (LB.set (Int.toNat (qi (LE + LC))) (qb.mk ((rd LB (qi (LD + LC))).often_) ((rd LB (qi (LD + LC))).symbols_))) fun (LG : (List qb)) =>
      chk (inb (qi (LD + LC)) LG.length) <|
      lt (LG.set (Int.toNat (qi (LD + LC))) (qb.mk ((rd LB (qi (LE + LC))).often_) ((rd LB (qi (LE + LC))).symbols_))) fun (LH : (List qb)) =>
      lt ((qi (LC + (1 : Int)))) fun (LI : Int) =>
      qI.l1 K LE LD LF k LH LI)
      (
      .ok LB)
def qI.m (K : Nat) (LB : List qb) (LC : Int) (LD : Int) (LE : Int) : qN (List qb) :=
  qI.l1 K LC LD LE K LB (0 : Int)
def qw.j2 (K : Nat) (LE : Int) (LB : (List qb)) (LD : Int) : qN (List qb) :=
  (qI.m K LB (qi (LE - LD)) LE LD).bind fun LC =>
  .ok LC
def qw.l1 (K : Nat) (LE : Int) : Nat → (List qb) → Int → Int → qN (List qb)
  | 0, _, _, _ => .fail
  | k + 1, LC, LB, LD =>
    cond (LB != LD)
      (
      cond (decide (LB > LD))
        (
        (qI.m K LC (qi (LE - LB)) LE LD).bind fun LF =>
        lt ((qi (LB - LD))) fun (LH : Int) =>
        qw.l1 K LE k LF LH LD)
        (
        (qI.m K LC (qi (LE - LB)) (qi ((qi (LE + LD)) - LB)) LB).bind fun LG =>
        lt ((qi (LD - LB))) fun (LI : Int) =>
        qw.l1 K LE k LG LB LI))
      (
      qw.j2 K LE LC LB)
def qw.m (K : Nat) (LB : List qb) (LD : Int) (LC : Int) (LE : Int) : qN (List qb) :=
  lt ((qi (LC - LD))) fun (LF : Int) =>
  lt ((qi (LE - LC))) fun (LG : Int) =>
  qw.l1 K LC K LB LF LG
def qa.l3 (K : Nat) (rc : (List qb) → Int → Int → Int → qN (List qb)) (LE : Int) : Nat → (List qb) → Int → qN (List qb)
  | 0, _, _ => .fail
  | k + 1, LB, LC =>
    cond (decide (LC < (qi (LE - (1 : Int)))))
      (
      chk (inb (qi (LC + (1 : Int))) LB.length) <|
      chk (inb LC LB.length) <|
      lt (LB.set (Int.toNat LC) (qb.mk ((rd LB (qi (LC + (1 : Int)))).often_) ((rd LB (qi (LC + (1 : Int)))).symbols_))) fun (LD : (List qb)) =>
      chk (inb (qi (LC + (1 : Int))) LD.length) <|
      lt (LD.set (Int.toNat (qi (LC + (1 : Int)))) (qb.mk ((rd LB LC).often_) ((rd LB LC).symbols_))) fun (LG : (List qb)) =>
      lt ((qi (LC + (1 : Int)))) fun (LF : Int) =>
      qa.l3 K rc LE k LG LF)
      (
      .ok LB)
def qa.j2 (K : Nat) (rc : (List qb) → Int → Int → Int → qN (List qb)) (LB : List qb) (LC : Int) (LD : Int) : qN (List qb) :=
  qa.l3 K rc LD K LB LC
def qa.l1 (K : Nat) (rc : (List qb) → Int → Int → Int → qN (List qb)) (LB : List qb) (LC : Int) : Nat → Int → Int → qN (List qb)
  | 0, _, _ => .fail
  | k + 1, LE, LF =>
    cond (decide (LE < LF))
      (
      lt ((wr .i64 (xF .u64 (wr .u64 (qi (LE + LF))) (1 : Int)))) fun (LD : Int) =>
      chk (inb LD LB.length) <|
      chk (inb LC LB.length) <|
      (xN.m K (qb.mk ((rd LB LD).often_) ((rd LB LD).symbols_)) (qb.mk ((rd LB LC).often_) ((rd LB LC).symbols_))).bind fun LH =>
      cond (decide (LH < (0 : Int)))
        (
        lt ((qi (LD + (1 : Int)))) fun (LG : Int) =>
        qa.l1 K rc LB LC k LG LF)
        (
        qa.l1 K rc LB LC k LE LD))
      (
      qa.j2 K rc LB LC LE)
def qa.l7 (K : Nat) (rc : (List qb) → Int → Int → Int → qN (List qb)) (LE : Int) : Nat → (List qb) → Int → qN (List qb)
  | 0, _, _ => .fail
  | k + 1, LB, LC =>
    cond (decide (LC > LE))
      (
      chk (inb (qi (LC - (1 : Int))) LB.length) <|
      chk (inb LC LB.length) <|
      lt (LB.set (Int.toNat LC) (qb.mk ((rd LB (qi (LC - (1 : Int)))).often_) ((rd LB (qi (LC - (1 : Int)))).symbols_))) fun (LD : (List qb)) =>
      chk (inb (qi (LC - (1 : Int))) LD.length) <|
      lt (LD.set (Int.toNat (qi (LC - (1 : Int)))) (qb.mk ((rd LB LC).often_) ((rd LB LC).symbols_))) fun (LG : (List qb)) =>
      lt ((qi (LC - (1 : Int)))) fun (LF : Int) =>
      qa.l7 K rc LE k LG LF)
      (
      .ok LB)
def qa.j6 (K : Nat) (rc : (List qb) → Int → Int → Int → qN (List qb)) (LB : List qb) (LD : Int) (LC : Int) : qN (List qb) :=
  qa.l7 K rc LC K LB LD
def qa.l5 (K : Nat) (rc : (List qb) → Int → Int → Int → qN (List qb)) (LB : List qb) (LC : Int) : Nat → Int → Int → qN (List qb)
  | 0, _, _ => .fail
  | k + 1, LE, LF =>
    cond (decide (LE < LF))
      (
      lt ((wr .i64 (xF .u64 (wr .u64 (qi (LE + LF))) (1 : Int)))) fun (LD : Int) =>
      chk (inb LC LB.length) <|
      chk (inb LD LB.length) <|
      (xN.m K (qb.mk ((rd LB LC).often_) ((rd LB LC).symbols_)) (qb.mk ((rd LB LD).often_) ((rd LB LD).symbols_))).bind fun LH =>
      cond (!(decide (LH < (0 : Int))))
        (
        lt ((qi (LD + (1 : Int)))) fun (LG : Int) =>
        qa.l5 K rc LB LC k LG LF)
        (
        qa.l5 K rc LB LC k LE LD))
      (
      qa.j6 K rc LB LC LE)
def qa.j13 (K : Nat) (rc : (List qb) → Int → Int → Int → qN (List qb)) (LE : Int) (LD : Int) (LB : Int) (LC : (List qb)) : qN (List qb) :=
  cond ((decide (LD < LB)) && (decide (LB < LE)))
    (
    (rc LC LD LB LE).bind fun LF =>
    .ok LF)
    (
    .ok LC)
def qa.j12 (K : Nat) (rc : (List qb) → Int → Int → Int → qN (List qb)) (LF : Int) (LG : Int) (LC : Int) (LB : Int) (LE : Int) (LD : (List qb)) : qN (List qb) :=
  cond ((decide (LF < LB)) && (decide (LB < LC)))
    (
    (rc LD LF LB LC).bind fun LH =>
    qa.j13 K rc LG LC LE LH)
    (
    qa.j13 K rc LG LC LE LD)
def qa.j11 (K : Nat) (rc : (List qb) → Int → Int → Int → qN (List qb)) (LD : List qb) (LF : Int) (LI : Int) (LG : Int) (LE : Int) (LJ : Int) (LB : Int) : qN (List qb) :=
  lt ((qi (LJ - LB))) fun (LC : Int) =>
  cond ((decide (LB < LI)) && (decide (LI < LC)))
    (
    (qw.m K LD LB LI LC).bind fun LH =>
    qa.j12 K rc LF LG LE LB LC LH)
    (
    qa.j12 K rc LF LG LE LB LC LD)
def qa.l10 (K : Nat) (rc : (List qb) → Int → Int → Int → qN (List qb)) (LB : List qb) (LG : Int) (LK : Int) (LH : Int) (LE : Int) (LI : Int) (LF : Int) : Nat → Int → Int → qN (List qb)
  | 0, _, _ => .fail
  | k + 1, LD, LL =>
    cond (decide (LD < LL))
      (
      lt ((wr .i64 (xF .u64 (wr .u64 (qi (LD + LL))) (1 : Int)))) fun (LC : Int) =>
      chk (inb (qi (LF - LC)) LB.length) <|
      chk (inb LC LB.length) <|
      (xN.m K (qb.mk ((rd LB (qi (LF - LC))).often_) ((rd LB (qi (LF - LC))).symbols_)) (qb.mk ((rd LB LC).often_) ((rd LB LC).symbols_))).bind fun LM =>
      cond (!(decide (LM < (0 : Int))))
        (
        lt ((qi (LC + (1 : Int)))) fun (LJ : Int) =>
        qa.l10 K rc LB LG LK LH LE LI LF k LJ LL)
        (
        qa.l10 K rc LB LG LK LH LE LI LF k LD LC))
      (
      qa.j11 K rc LB LG LK LH LE LI LD)
def qa.j9 (K : Nat) (rc : (List qb) → Int → Int → Int → qN (List qb)) (LC : List qb) (LF : Int) (LH : Int) (LG : Int) (LE : Int) (LD : Int) (LB : Int) (LJ : Int) : qN (List qb) :=
  lt ((qi (LD - (1 : Int)))) fun (LI : Int) =>
  qa.l10 K rc LC LF LH LG LE LD LI K LB LJ
def qa.j8 (K : Nat) (rc : (List qb) → Int → Int → Int → qN (List qb)) (LE : List qb) (LC : Int) (LF : Int) (LD : Int) : qN (List qb) :=
  lt ((wr .i64 (xF .u64 (wr .u64 (qi (LC + LD))) (1 : Int)))) fun (LB : Int) =>
  lt ((qi (LB + LF))) fun (LG : Int) =>
  cond (decide (LF > LB))
    (
    lt ((qi (LG - LD))) fun (LH : Int) =>
    qa.j9 K rc LE LC LF LD LB LG LH LB)
    (
    qa.j9 K rc LE LC LF LD LB LG LC LF)
def qa.j4 (K : Nat) (rc : (List qb) → Int → Int → Int → qN (List qb)) (LB : List qb) (LD : Int) (LC : Int) (LE : Int) : qN (List qb) :=
  cond ((qi (LE - LC)) == (1 : Int))
    (
    qa.l5 K rc LB LC K LD LC)
    (
    qa.j8 K rc LB LD LC LE)
def qa.b (K : Nat) (rc : (List qb) → Int → Int → Int → qN (List qb)) (LB : List qb) (LC : Int) (LE : Int) (LD : Int) : qN (List qb) :=
  cond ((qi (LE - LC)) == (1 : Int))
    (
    qa.l1 K rc LB LC K LE LD)
    (
    qa.j4 K rc LB LC LE LD)
def qa.r (K : Nat) : Nat → (List qb) → Int → Int → Int → qN (List qb)
  | 0 => fun _ _ _ _ => .fail
  | d + 1 => qa.b K (qa.r K d)
def qa.m (K : Nat) (LB : List qb) (LC : Int) (LE : Int) (LD : Int) : qN (List qb) := qa.r K K LB LC LE LD
def qe.j5 (K : Nat) (g3 : (List qb) → Int → qN (List qb)) (LH : Int) (LB : Int) (LE : (List qb)) (LF : Int) : qN (List qb) :=
  lt ((qi (LF + LB))) fun (LI : Int) =>
  cond (decide (LI < LH))
    (
    (qa.m K LE LF LI LH).bind fun LG =>
    lt ((qi (LB * (2 : Int)))) fun (LC : Int) =>
    g3 LG LC)
    (
    lt ((qi (LB * (2 : Int)))) fun (LD : Int) =>
    g3 LE LD)
def qe.l4 (K : Nat) (g3 : (List qb) → Int → qN (List qb)) (LF : Int) (LB : Int) : Nat → (List qb) → Int → Int → qN (List qb)
  | 0, _, _, _ => .fail
  | k + 1, LD, LE, LC =>
    cond (decide (LC ≤ LF))
      (
      (qa.m K LD LE (qi (LE + LB)) LC).bind fun LG =>
      lt ((qi (LC + (qi ((2 : Int) * LB))))) fun (LH : Int) =>
      qe.l4 K g3 LF LB k LG LC LH)
      (
      qe.j5 K (g3) LF LB LD LE)
def qe.l3 (K : Nat) (LD : Int) : Nat → (List qb) → Int → qN (List qb)
  | 0, _, _ => .fail
  | k + 1, LC, LB =>
    cond (decide (LB < LD))
      (
      lt ((qi ((2 : Int) * LB))) fun (LE : Int) =>
      qe.l4 K (qe.l3 K LD k) LD LB K LC (0 : Int) LE)
      (
      .ok LC)
def qe.j2 (K : Nat) (LD : Int) (LB : (List qb)) (LE : Int) : qN (List qb) :=
  (qd.m K LB LE LD).bind fun LC =>
  qe.l3 K LD K LC (20 : Int)
def qe.l1 (K : Nat) (LD : Int) : Nat → (List qb) → Int → Int → qN (List qb)
  | 0, _, _, _ => .fail
  | k + 1, LC, LE, LB =>
    cond (decide (LB ≤ LD))
      (
      (qd.m K LC LE LB).bind fun LF =>
      lt ((qi (LB + (20 : Int)))) fun (LG : Int) =>
      qe.l1 K LD k LF LB LG)
      (
      qe.j2 K LD LC LE)
def qe.m (K : Nat) (LB : List qb) (LC : Int) : qN (List qb) :=
  qe.l1 K LC K LB (0 : Int) (20 : Int)
def qT.m (K : Nat) (LC : List qb) : qN (List qb) :=
  (qe.m K LC (LC.length : Int)).bind fun LB =>
  .ok LB
def xL.m (K : Nat) (LC : Int) : qN Unit :=
  cond (decide (LC < (0 : Int)))
    (
    .pan (.iface QI (yb ([99, 97, 110, 110, 111, 116, 32, 98, 101, 32, 110, 101, 103, 97, 116, 105, 118, 101] : List UInt8))))
    (
    lt ((qi (LC - (qi ((0 : Int) - (0 : Int)))))) fun (LB : Int) =>
    cond (decide (LB > (0 : Int)))
      (
      chk (decide ((0 : Int) < LB) && room (Int.toNat LB) 8) <|
      .ok ())
      (
      .ok ()))
def qS.l3 (K : Nat) (LB : List (List Int)) : Nat → (List Int) → Int → qN (List Int)
  | 0, _, _ => .fail
  | k + 1, LC, LD =>
    cond (decide (LD < (LB.length : Int)))
      (
      chk (inb LD LB.length) <|
      chk (room (LC.length + (rd LB LD).length) 8) <|
      lt (LC ++ (rd LB LD)) fun (LE : (List Int)) =>
      qS.l3 K LB k LE (qi (LD + (1 : Int))))
      (
      .ok LC)
def qS.j2 (K : Nat) (LB : List (List Int)) (LC : Int) : qN (List Int) :=
  (xL.m K LC).bind fun _ =>
  qS.l3 K LB K ([] : List Int) (0 : Int)
def qS.l1 (K : Nat) (LB : List (List Int)) : Nat → Int → Int → qN (List Int)
  | 0, _, _ => .fail
  | k + 1, LC, LE =>
    cond (decide (LE < (LB.length : Int)))
      (
      chk (inb LE LB.length) <|
      lt ((qi (LC + ((rd LB LE).length : Int)))) fun (LD : Int) =>
      cond (decide (LD < (0 : Int)))
        (
        .pan (.iface QI (yb ([108, 101, 110, 32, 111, 117, 116, 32, 111, 102, 32, 114, 97, 110, 103, 101] : List UInt8))))
        (
        qS.l1 K LB k LD (qi (LE + (1 : Int)))))
      (
      qS.j2 K LB LC)
def qS.m (K : Nat) (LB : List (List Int)) : qN (List Int) :=
  qS.l1 K LB K (0 : Int) (0 : Int)
def x4.l1 (K : Nat) (LB : List qb) : Nat → (List qb) → Int → qN (List qb)
  | 0, _, _ => .fail
  | k + 1, LD, LC =>
    cond (decide ((qi (LC + (1 : Int))) < (LB.length : Int)))
      (
      chk (inb LC LB.length) <|
      chk (inb (qi (LC + (1 : Int))) LB.length) <|
      (qS.m K ([(rd LB LC).symbols_, (rd LB (qi (LC + (1 : Int)))).symbols_] : List (List Int))).bind fun LE =>
      chk (room (LD.length + ([(qb.mk (qi ((rd LB LC).often_ + (rd LB (qi (LC + (1 : Int)))).often_)) LE)] : List qb).length) 32) <|
      lt (LD ++ ([(qb.mk (qi ((rd LB LC).often_ + (rd LB (qi (LC + (1 : Int)))).often_)) LE)] : List qb)) fun (LF : (List qb)) =>
      lt ((qi (LC + (2 : Int)))) fun (LG : Int) =>
      x4.l1 K LB k LF LG)
      (
      .ok LD)
def x4.m (K : Nat) (LB : List qb) : qN (List qb) :=
  x4.l1 K LB K ([] : List qb) (0 : Int)
def z7.m (K : Nat) (LC : Int) : qN Unit :=
  cond (decide (LC < (0 : Int)))
    (
    .pan (.iface QI (yb ([99, 97, 110, 110, 111, 116, 32, 98, 101, 32, 110, 101, 103, 97, 116, 105, 118, 101] : List UInt8))))
    (
    lt ((qi (LC - (qi ((0 : Int) - (0 : Int)))))) fun (LB : Int) =>
    cond (decide (LB > (0 : Int)))
      (
      chk (decide ((0 : Int) < LB) && room (Int.toNat LB) 32) <|
      .ok ())
      (
      .ok ()))
def qt.l3 (K : Nat) (LB : List (List qb)) : Nat → (List qb) → Int → qN (List qb)
  | 0, _, _ => .fail
  | k + 1, LC, LD =>
    cond (decide (LD < (LB.length : Int)))
      (
      chk (inb LD LB.length) <|
      chk (room (LC.length + (rd LB LD).length) 32) <|
      lt (LC ++ (rd LB LD)) fun (LE : (List qb)) =>
      qt.l3 K LB k LE (qi (LD + (1 : Int))))
      (
      .ok LC)
def qt.j2 (K : Nat) (LB : List (List qb)) (LC : Int) : qN (List qb) :=
  (z7.m K LC).bind fun _ =>
  qt.l3 K LB K ([] : List qb) (0 : Int)
def qt.l1 (K : Nat) (LB : List (List qb)) : Nat → Int → Int → qN (List qb)
  | 0, _, _ => .fail
  | k + 1, LC, LE =>
    cond (decide (LE < (LB.length : Int)))
      (
      chk (inb LE LB.length) <|
      lt ((qi (LC + ((rd LB LE).length : Int)))) fun (LD : Int) =>
      cond (decide (LD < (0 : Int)))
        (
        .pan (.iface QI (yb ([108, 101, 110, 32, 111, 117, 116, 32, 111, 102, 32, 114, 97, 110, 103, 101] : List UInt8))))
        (
        qt.l1 K LB k LD (qi (LE + (1 : Int)))))
      (
      qt.j2 K LB LC)
def qt.m (K : Nat) (LB : List (List qb)) : qN (List qb) :=
  qt.l1 K LB K (0 : Int) (0 : Int)
def yK.m (K : Nat) (LB : List qb) (LC : List qb) : qN (List qb) :=
  (qt.m K ([LB, LC] : List (List qb))).bind fun LD =>
  (qT.m K LD).bind fun LE =>
  .ok LE
def qD.l8 (K : Nat) (g7 : (List Int) → Int → qN ((List Int) × Int)) (LC : (List qb)) (LD : Int) : Nat → (List Int) → Int → qN ((List Int) × Int)
  | 0, _, _ => .fail
  | k + 1, LB, LE =>
    cond (decide (LE < (((rd LC LD).symbols_).length : Int)))
      (
      chk (inb LE ((rd LC LD).symbols_).length) <|
      lt ((rd ((rd LC LD).symbols_) LE)) fun (LF : Int) =>
      chk (inb LF LB.length) <|
      lt (LB.set (Int.toNat LF) (qi ((rd LB LF) + (1 : Int)))) fun (LG : (List Int)) =>
      qD.l8 K g7 LC LD k LG (qi (LE + (1 : Int))))
      (
      g7 LB (qi (LD + (1 : Int))))
def qD.l7 (K : Nat) (LB : (List qb)) : Nat → (List Int) → Int → qN ((List Int) × Int)
  | 0, _, _ => .fail
  | k + 1, LC, LD =>
    cond (decide (LD < (LB.length : Int)))
      (
      chk (inb LD LB.length) <|
      qD.l8 K (qD.l7 K LB k) LB LD K LC (0 : Int))
      (
      .ok (LC, (0 : Int)))
def qD.j6 (K : Nat) (LC : (List Int)) (LD : (List qb)) (LB : (List qb)) : qN ((List Int) × Int) :=
  chk (subok (0 : Int) (qi ((qi ((2 : Int) * (LD.length : Int))) - (2 : Int))) LB.length) <|
  lt (sub LB (0 : Int) (qi ((qi ((2 : Int) * (LD.length : Int))) - (2 : Int)))) fun (LE : (List qb)) =>
  qD.l7 K LE K LC (0 : Int)
def qD.l5 (K : Nat) (LB : Int) (LC : (List Int)) (LE : (List qb)) : Nat → (List qb) → Int → qN ((List Int) × Int)
  | 0, _, _ => .fail
  | k + 1, LD, LF =>
    cond (decide (LF < (qi (LB - (1 : Int)))))
      (
      (x4.m K LD).bind fun LG =>
      (yK.m K LE LG).bind fun LH =>
      qD.l5 K LB LC LE k LH (qi (LF + (1 : Int))))
      (
      qD.j6 K LC LE LD)
def qD.j4 (K : Nat) (LD : Int) (LB : (List qb)) (LC : (List Int)) : qN ((List Int) × Int) :=
  cond (decide ((LB.length : Int) < (2 : Int)))
    (
    .ok (LC, (0 : Int)))
    (
    (qT.m K LB).bind fun LE =>
    qD.l5 K LD LC LE K LE (0 : Int))
def qD.j3 (K : Nat) (LD : List Int) (LC : Int) (LB : (List qb)) : qN ((List Int) × Int) :=
  chk (decide (0 ≤ LC)) <|
  cond (decide ((LB.length : Int) > (xl .i64 (1 : Int) LC)))
    (
    .ok (([] : List Int), (1 : Int)))
    (
    chk (decide (0 ≤ (LD.length : Int)) && room (Int.toNat (LD.length : Int)) 8) <|
    lt (List.replicate (Int.toNat (LD.length : Int)) (0 : Int)) fun (LE : (List Int)) =>
    cond ((LB.length : Int) == (1 : Int))
      (
      chk (inb (0 : Int) LB.length) <|
      chk (inb (0 : Int) ((rd LB (0 : Int)).symbols_).length) <|
      chk (inb (rd ((rd LB (0 : Int)).symbols_) (0 : Int)) LE.length) <|
      lt (LE.set (Int.toNat (rd ((rd LB (0 : Int)).symbols_) (0 : Int))) (1 : Int)) fun (LF : (List Int)) =>
      qD.j4 K LC LB LF)
      (
      qD.j4 K LC LB LE))
def qD.l2 (K : Nat) (LB : List Int) (LD : Int) : Nat → (List qb) → Int → qN ((List Int) × Int)
  | 0, _, _ => .fail
  | k + 1, LC, LE =>
    cond (decide (LE < (LB.length : Int)))
      (
      chk (inb LE LB.length) <|
      lt ((rd LB LE)) fun (LF : Int) =>
      cond (decide (LF > (0 : Int)))
        (
        chk (room (LC.length + ([(qb.mk LF ([LE] : List Int))] : List qb).length) 32) <|
        lt (LC ++ ([(qb.mk LF ([LE] : List Int))] : List qb)) fun (LG : (List qb)) =>
        qD.l2 K LB LD k LG (qi (LE + (1 : Int))))
        (
        qD.l2 K LB LD k LC (qi (LE + (1 : Int)))))
      (
      qD.j3 K LB LD LC)
def qD.j1 (K : Nat) (LB : List Int) (LC : Int) (LD : Bool) : qN ((List Int) × Int) :=
  cond LD
    (
    .ok (([] : List Int), (1 : Int)))
    (
    qD.l2 K LB LC K ([] : List qb) (0 : Int))
def qD.m (K : Nat) (LB : List Int) (LC : Int) : qN ((List Int) × Int) :=
  cond (((decide (LC < (1 : Int))) || (decide (LC > (15 : Int)))) || (decide ((LB.length : Int) > (320 : Int))))
    (
    qD.j1 K LB LC true)
    (
    (xy.m K LB).bind fun LD =>
    qD.j1 K LB LC LD)
def qX.j4 (K : Nat)  (LB : (List Int)) : qN ((List Int) × (List Int)) :=
  (qD.m K LB (15 : Int)).bind fun (LC, LD) =>
  .ok (LC, LB)
def qX.l3 (K : Nat)  : Nat → (List Int) → Int → Int → qN ((List Int) × (List Int))
  | 0, _, _, _ => .fail
  | k + 1, LB, LD, LC =>
    cond (decide (LD < (2 : Int)))
      (
      chk (inb LC LB.length) <|
      cond ((rd LB LC) == (0 : Int))
        (
        lt (LB.set (Int.toNat LC) (qi ((rd LB LC) + (1 : Int)))) fun (LF : (List Int)) =>
        lt ((qi (LD + (1 : Int)))) fun (LE : Int) =>
        lt ((qi (LC + (1 : Int)))) fun (LG : Int) =>
        qX.l3 K k LF LE LG)
        (
        lt ((qi (LC + (1 : Int)))) fun (LH : Int) =>
        qX.l3 K k LB LD LH))
      (
      qX.j4 K LB)
def qX.j2 (K : Nat) (LB : List Int) (LC : Int) : qN ((List Int) × (List Int)) :=
  qX.l3 K K LB LC (0 : Int)
def qX.l1 (K : Nat) (LB : List Int) : Nat → Int → Int → qN ((List Int) × (List Int))
  | 0, _, _ => .fail
  | k + 1, LE, LC =>
    cond (decide (LC < (LB.length : Int)))
      (
      chk (inb LC LB.length) <|
      lt ((rd LB LC)) fun (LD : Int) =>
      lt ((qi (LE + (if (1 : Int) < LD then (1 : Int) else LD)))) fun (LF : Int) =>
      qX.l1 K LB k LF (qi (LC + (1 : Int))))
      (
      qX.j2 K LB LE)
def qX.m (K : Nat) (LB : List Int) : qN ((List Int) × (List Int)) :=
  qX.l1 K LB K (0 : Int) (0 : Int)
def qP.j4 (K : Nat) (g1 : (List qh) → Int → qN (List qh)) (LD : List Int) (LB : (List qh)) (LE : Int) (LC : Int) : qN (List qh) :=
  chk (inb LE LD.length) <|
  lt ((((rd LD LE) == (0 : Int)) && (decide (LC ≥ (11 : Int))))) fun (LP : Bool) =>
  cond LP
    (
    lt ((if (138 : Int) < LC then (138 : Int) else LC)) fun (LF : Int) =>
    chk (room (LB.length + ([(qh.mk (18 : Int) (qi (LF - (11 : Int))) (7 : Int))] : List qh).length) 24) <|
    lt (LB ++ ([(qh.mk (18 : Int) (qi (LF - (11 : Int))) (7 : Int))] : List qh)) fun (LH : (List qh)) =>
    lt ((qi (LE + LF))) fun (LL : Int) =>
    g1 LH LL)
    (
    lt ((((rd LD LE) == (0 : Int)) && (decide (LC ≥ (3 : Int))))) fun (LQ : Bool) =>
    cond LQ
      (
      chk (room (LB.length + ([(qh.mk (17 : Int) (qi (LC - (3 : Int))) (3 : Int))] : List qh).length) 24) <|
      lt (LB ++ ([(qh.mk (17 : Int) (qi (LC - (3 : Int))) (3 : Int))] : List qh)) fun (LI : (List qh)) =>
      lt ((qi (LE + LC))) fun (LM : Int) =>
      g1 LI LM)
      (
      lt ((decide (LC ≥ (4 : Int)))) fun (LR : Bool) =>
      cond LR
        (
        lt ((if (7 : Int) < LC then (7 : Int) else LC)) fun (LG : Int) =>
        chk (room (LB.length + ([(qh.mk (rd LD LE) (0 : Int) (0 : Int)), (qh.mk (16 : Int) (qi (LG - (4 : Int))) (2 : Int))] : List qh).length) 24) <|
        lt (LB ++ ([(qh.mk (rd LD LE) (0 : Int) (0 : Int)), (qh.mk (16 : Int) (qi (LG - (4 : Int))) (2 : Int))] : List qh)) fun (LJ : (List qh)) =>
        lt ((qi (LE + LG))) fun (LN : Int) =>
        g1 LJ LN)
        (
        chk (room (LB.length + ([(qh.mk (rd LD LE) (0 : Int) (0 : Int))] : List qh).length) 24) <|
        lt (LB ++ ([(qh.mk (rd LD LE) (0 : Int) (0 : Int))] : List qh)) fun (LK : (List qh)) =>
        lt ((qi (LE + (1 : Int)))) fun (LO : Int) =>
        g1 LK LO)))
def qP.j3 (K : Nat) (g1 : (List qh) → Int → qN (List qh)) (g2 : Int → qN (List qh)) (LD : List Int) (LC : (List qh)) (LF : Int) (LB : Int) (LG : Bool) : qN (List qh) :=
  cond LG
    (
    lt ((qi (LB + (1 : Int)))) fun (LE : Int) =>
    g2 LE)
    (
    qP.j4 K (g1) LD LC LF LB)
def qP.l2 (K : Nat) (g1 : (List qh) → Int → qN (List qh)) (LB : List Int) (LD : (List qh)) (LC : Int) : Nat → Int → qN (List qh)
  | 0, _ => .fail
  | k + 1, LE =>
    cond (decide ((qi (LC + LE)) < (LB.length : Int)))
      (
      chk (inb (qi (LC + LE)) LB.length) <|
      chk (inb LC LB.length) <|
      qP.j3 K (g1) (qP.l2 K g1 LB LD LC k) LB LD LC LE ((rd LB (qi (LC + LE))) == (rd LB LC)))
      (
      qP.j3 K (g1) (qP.l2 K g1 LB LD LC k) LB LD LC LE false)
def qP.l1 (K : Nat) (LB : List Int) : Nat → (List qh) → Int → qN (List qh)
  | 0, _, _ => .fail
  | k + 1, LC, LD =>
    cond (decide (LD < (LB.length : Int)))
      (
      qP.l2 K (qP.l1 K LB k) LB LC LD K (1 : Int))
      (
      .ok LC)
def qP.m (K : Nat) (LB : List Int) : qN (List qh) :=
  qP.l1 K LB K ([] : List qh) (0 : Int)
def zV.l1 (K : Nat) (LD : qp) (LC : qu) (LH : Int) : Nat → Int → (List Int) → Int → qN (Int × (List Int))
  | 0, _, _, _ => .fail
  | k + 1, LE, LB, LF =>
    cond (decide (LF ≥ (0 : Int)))
      (
      chk (inb LH LC.codes_.length) <|
      chk (decide (0 ≤ LF)) <|
      (qn.m K (qp.mk (qR.mk (qW.mk LE) LB) LD.literals_ LD.distances_) (wr .u32 (ye .i64 (xF .i64 (rd LC.codes_ LH) LF) (1 : Int))) (1 : Int)).bind fun (LK, LI, LG) =>
      lt ((qi (LF - (1 : Int)))) fun (LJ : Int) =>
      zV.l1 K LD LC LH k LI LG LJ)
      (
      .ok (LE, LB))
def zV.m (K : Nat) (LC : qp) (LB : qu) (LD : Int) : qN (Int × (List Int)) :=
  chk (inb LD LB.lengths_.length) <|
  lt ((qi ((rd LB.lengths_ LD) - (1 : Int)))) fun (LE : Int) =>
  zV.l1 K LC LB LD K LC.Writer_.place_.at_ LC.Writer_.bytes_ LE
def qg.j12 (K : Nat) (LJ : List qv) (LH : (List Int)) (LB : (List Int)) (LI : (List Int)) (LC : (List Int)) (LF : Int) (LD : (List Int)) : qN ((List UInt8) × Int) :=
  (zj.m K (qp.mk (qR.mk (qW.mk LF) LD) (qu.mk LH LB) (qu.mk LI LC)) LJ).bind fun (LG, LE) =>
  (z5.m K (qp.mk (qR.mk (qW.mk LG) LE) (qu.mk LH LB) (qu.mk LI LC))).bind fun LK =>
  .ok (LK, (0 : Int))
def qg.l11 (K : Nat) (LM : List qv) (LI : (List Int)) (LB : (List Int)) (LJ : (List Int)) (LC : (List Int)) (LG : (List qh)) (LP : (List Int)) (LE : (List Int)) : Nat → Int → (List Int) → Int → qN ((List UInt8) × Int)
  | 0, _, _, _ => .fail
  | k + 1, LH, LD, LF =>
    cond (decide (LF < (LG.length : Int)))
      (
      chk (inb LF LG.length) <|
      (zV.m K (qp.mk (qR.mk (qW.mk LH) LD) (qu.mk LI LB) (qu.mk LJ LC)) (qu.mk LP LE) ((rd LG LF).symbol_)).bind fun (LN, LK) =>
      (qn.m K (qp.mk (qR.mk (qW.mk LN) LK) (qu.mk LI LB) (qu.mk LJ LC)) (wr .u32 (rd LG LF).more_) ((rd LG LF).bits_)).bind fun (LQ, LO, LL) =>
      qg.l11 K LM LI LB LJ LC LG LP LE k LO LL (qi (LF + (1 : Int))))
      (
      qg.j12 K LM LI LB LJ LC LH LD)
def qg.j10 (K : Nat) (LG : List qv) (LH : (List Int)) (LC : (List Int)) (LI : (List Int)) (LD : (List Int)) (LJ : (List qh)) (LK : (List Int)) (LE : (List Int)) (LF : Int) (LB : (List Int)) : qN ((List UInt8) × Int) :=
  qg.l11 K LG LH LC LI LD LJ LK LE K LF LB (0 : Int)
def qg.l9 (K : Nat) (LJ : List qv) (LK : (List Int)) (LB : (List Int)) (LL : (List Int)) (LC : (List Int)) (LO : (List qh)) (LH : (List Int)) (LE : (List Int)) : Nat → Int → (List Int) → Int → qN ((List UInt8) × Int)
  | 0, _, _, _ => .fail
  | k + 1, LF, LD, LG =>
    cond (decide (LG < (19 : Int)))
      (
      chk (inb LG 19) <|
      lt ((rd tab_deflate_order LG)) fun (LN : Int) =>
      chk (inb LN LH.length) <|
      (qn.m K (qp.mk (qR.mk (qW.mk LF) LD) (qu.mk LK LB) (qu.mk LL LC)) (wr .u32 (rd LH LN)) (3 : Int)).bind fun (LP, LM, LI) =>
      qg.l9 K LJ LK LB LL LC LO LH LE k LM LI (qi (LG + (1 : Int))))
      (
      qg.j10 K LJ LK LB LL LC LO LH LE LF LD)
def qg.j8 (K : Nat) (LQ : List qv) (LD : (List Int)) (LB : (List Int)) (LE : (List Int)) (LC : (List Int)) (LR : (List qh)) (LK : (List Int)) : qN ((List UInt8) × Int) :=
  (qD.m K LK (7 : Int)).bind fun (LP, LS) =>
  (yh.m K LP).bind fun LJ =>
  (qn.m K (qp.mk (qR.mk (qW.mk (0 : Int)) ([] : List Int)) (qu.mk LD LB) (qu.mk LE LC)) (5 : Int) (3 : Int)).bind fun (LT, LL, LF) =>
  (qn.m K (qp.mk (qR.mk (qW.mk LL) LF) (qu.mk LD LB) (qu.mk LE LC)) (29 : Int) (5 : Int)).bind fun (LU, LM, LG) =>
  (qn.m K (qp.mk (qR.mk (qW.mk LM) LG) (qu.mk LD LB) (qu.mk LE LC)) (29 : Int) (5 : Int)).bind fun (LV, LN, LH) =>
  (qn.m K (qp.mk (qR.mk (qW.mk LN) LH) (qu.mk LD LB) (qu.mk LE LC)) (15 : Int) (4 : Int)).bind fun (LW, LO, LI) =>
  qg.l9 K LQ LD LB LE LC LR LP LJ K LO LI (0 : Int)
def qg.j7 (K : Nat) (LE : List qv) (LG : (List Int)) (LC : (List Int)) (LH : (List Int)) (LD : (List Int)) (LI : (List qh)) (LB : (List Int)) (LJ : Int) : qN ((List UInt8) × Int) :=
  cond (decide (LJ < (2 : Int)))
    (
    chk (inb (0 : Int) LB.length) <|
    chk (inb (1 : Int) LB.length) <|
    lt (LB.set (Int.toNat (0 : Int)) (if (1 : Int) > (rd LB (0 : Int)) then (1 : Int) else (rd LB (0 : Int)))) fun (LF : (List Int)) =>
    chk (inb (1 : Int) LF.length) <|
    lt (LF.set (Int.toNat (1 : Int)) (if (1 : Int) > (rd LB (1 : Int)) then (1 : Int) else (rd LB (1 : Int)))) fun (LK : (List Int)) =>
    qg.j8 K LE LG LC LH LD LI LK)
    (
    qg.j8 K LE LG LC LH LD LI LB)
def qg.l6 (K : Nat) (LG : List qv) (LI : (List Int)) (LC : (List Int)) (LJ : (List Int)) (LD : (List Int)) (LK : (List qh)) (LB : (List Int)) : Nat → Int → Int → qN ((List UInt8) × Int)
  | 0, _, _ => .fail
  | k + 1, LH, LE =>
    cond (decide (LE < (LB.length : Int)))
      (
      chk (inb LE LB.length) <|
      lt ((rd LB LE)) fun (LF : Int) =>
      lt ((qi (LH + (if (1 : Int) < LF then (1 : Int) else LF)))) fun (LL : Int) =>
      qg.l6 K LG LI LC LJ LD LK LB k LL (qi (LE + (1 : Int))))
      (
      qg.j7 K LG LI LC LJ LD LK LB LH)
def qg.j5 (K : Nat) (LE : List qv) (LF : (List Int)) (LB : (List Int)) (LG : (List Int)) (LC : (List Int)) (LH : (List qh)) (LD : (List Int)) : qN ((List UInt8) × Int) :=
  qg.l6 K LE LF LB LG LC LH LD K (0 : Int) (0 : Int)
def qg.l4 (K : Nat) (LG : List qv) (LH : (List Int)) (LD : (List Int)) (LI : (List Int)) (LE : (List Int)) (LC : (List qh)) : Nat → (List Int) → Int → qN ((List UInt8) × Int)
  | 0, _, _ => .fail
  | k + 1, LB, LF =>
    cond (decide (LF < (LC.length : Int)))
      (
      chk (inb LF LC.length) <|
      chk (inb (rd LC LF).symbol_ LB.length) <|
      lt (LB.set (Int.toNat (rd LC LF).symbol_) (qi ((rd LB (rd LC LF).symbol_) + (1 : Int)))) fun (LJ : (List Int)) =>
      qg.l4 K LG LH LD LI LE LC k LJ (qi (LF + (1 : Int))))
      (
      qg.j5 K LG LH LD LI LE LC LB)
def qg.j3 (K : Nat) (LI : List qv) (LC : (List Int)) (LB : (List Int)) : qN ((List UInt8) × Int) :=
  (qX.m K LC).bind fun (LD, LL) =>
  (yh.m K LD).bind fun LF =>
  (qX.m K LB).bind fun (LE, LM) =>
  (yh.m K LE).bind fun LG =>
  chk (room (([] : List Int).length + LD.length) 8) <|
  lt (([] : List Int) ++ LD) fun (LH : (List Int)) =>
  chk (room (LH.length + LE.length) 8) <|
  lt (LH ++ LE) fun (LJ : (List Int)) =>
  (qP.m K LJ).bind fun LN =>
  chk (decide (0 ≤ (19 : Int)) && room (Int.toNat (19 : Int)) 8) <|
  lt (List.replicate (Int.toNat (19 : Int)) (0 : Int)) fun (LK : (List Int)) =>
  qg.l4 K LI LD LF LE LG LN K LK (0 : Int)
def qg.l2 (K : Nat) (LD : List qv) : Nat → (List Int) → (List Int) → Int → qN ((List UInt8) × Int)
  | 0, _, _, _ => .fail
  | k + 1, LB, LC, LE =>
    cond (decide (LE < (LD.length : Int)))
      (
      chk (inb LE LD.length) <|
      cond ((rd LD LE).Dist_ == (0 : Int))
        (
        chk (inb (rd LD LE).Lit_ LB.length) <|
        lt (LB.set (Int.toNat (rd LD LE).Lit_) (qi ((rd LB (rd LD LE).Lit_) + (1 : Int)))) fun (LH : (List Int)) =>
        qg.l2 K LD k LH LC (qi (LE + (1 : Int))))
        (
        (yG.m K ((rd LD LE).Len_)).bind fun (LF, LK, LM) =>
        chk (inb LF LB.length) <|
        lt (LB.set (Int.toNat LF) (qi ((rd LB LF) + (1 : Int)))) fun (LI : (List Int)) =>
        (yv.m K ((rd LD LE).Dist_)).bind fun (LG, LL, LN) =>
        chk (inb LG LC.length) <|
        lt (LC.set (Int.toNat LG) (qi ((rd LC LG) + (1 : Int)))) fun (LJ : (List Int)) =>
        qg.l2 K LD k LI LJ (qi (LE + (1 : Int)))))
      (
      qg.j3 K LD LB LC)
def qg.j1 (K : Nat) (LD : List qv) (LB : (List Int)) (LC : (List Int)) : qN ((List UInt8) × Int) :=
  chk (inb (256 : Int) LB.length) <|
  lt (LB.set (Int.toNat (256 : Int)) (qi ((rd LB (256 : Int)) + (1 : Int)))) fun (LE : (List Int)) =>
  qg.l2 K LD K LE LC (0 : Int)
def qg.m (K : Nat) (LB : List qv) : qN ((List UInt8) × Int) :=
  (ji.m K LB).bind fun LE =>
  cond (!LE)
    (
    .ok (([] : List UInt8), (1 : Int)))
    (
    chk (decide (0 ≤ (286 : Int)) && room (Int.toNat (286 : Int)) 8) <|
    lt (List.replicate (Int.toNat (286 : Int)) (0 : Int)) fun (LC : (List Int)) =>
    chk (decide (0 ≤ (30 : Int)) && room (Int.toNat (30 : Int)) 8) <|
    lt (List.replicate (Int.toNat (30 : Int)) (0 : Int)) fun (LD : (List Int)) =>
    qg.j1 K LB LC LD)
def zT.j2 (K : Nat) (g1 : (List UInt8) → (List Int) → qN (List UInt8)) (LD : List UInt8) (LE : (List Int)) (LB : Int) (LC : Int) : qN (List UInt8) :=
  chk (room (LE.length + ([LC, (wr .u8 LB), (wr .u8 (xF .i64 LB (8 : Int))), (QK .u8 (wr .u8 LB)), (QK .u8 (wr .u8 (xF .i64 LB (8 : Int))))] : List Int).length) 1) <|
  lt (LE ++ ([LC, (wr .u8 LB), (wr .u8 (xF .i64 LB (8 : Int))), (QK .u8 (wr .u8 LB)), (QK .u8 (wr .u8 (xF .i64 LB (8 : Int))))] : List Int)) fun (LF : (List Int)) =>
  chk (subok (0 : Int) LB LD.length) <|
  chk (room (LF.length + (sub LD (0 : Int) LB).length) 1) <|
  lt (LF ++ (sub LD (0 : Int) LB).map uB) fun (LG : (List Int)) =>
  chk (subok LB (LD.length : Int) LD.length) <|
  lt ((sub LD LB (LD.length : Int))) fun (LH : List UInt8) =>
  cond (LC == (1 : Int))
    (
    lt ((LG.map Q5)) fun (LI : List UInt8) =>
    .ok LI)
    (
    g1 LH LG)
def zT.l1 (K : Nat)  : Nat → (List UInt8) → (List Int) → qN (List UInt8)
  | 0, _, _ => .fail
  | k + 1, LB, LD =>
    lt ((if (LB.length : Int) < (65535 : Int) then (LB.length : Int) else (65535 : Int))) fun (LC : Int) =>
    cond (LC == (LB.length : Int))
      (
      zT.j2 K (zT.l1 K k) LB LD LC (1 : Int))
      (
      zT.j2 K (zT.l1 K k) LB LD LC (0 : Int))
def zT.m (K : Nat) (LB : List UInt8) : qN (List UInt8) :=
  zT.l1 K K LB ([] : List Int)
def yy.m (K : Nat) (LB : xo) (LC : Int) : qN Unit :=
  chk (inb LC LB.text_.length) <|
  chk (inb (qi (LC + (1 : Int))) LB.text_.length) <|
  chk (inb (qi (LC + (2 : Int))) LB.text_.length) <|
  .ok ()
def zF.j2 (K : Nat) (g1 : Int → qN Int) (LB : Int) (LD : Bool) : qN Int :=
  cond LD
    (
    lt ((qi (LB + (1 : Int)))) fun (LC : Int) =>
    g1 LC)
    (
    .ok LB)
def zF.l1 (K : Nat) (LC : xo) (LE : Int) (LD : Int) : Nat → Int → qN Int
  | 0, _ => .fail
  | k + 1, LB =>
    cond (decide (LB < (258 : Int)))
      (
      cond (decide ((qi (LD + LB)) < (LC.text_.length : Int)))
        (
        chk (inb (qi (LE + LB)) LC.text_.length) <|
        chk (inb (qi (LD + LB)) LC.text_.length) <|
        zF.j2 K (zF.l1 K LC LE LD k) LB (((rd LC.text_ (qi (LE + LB))).toNat : Int) == ((rd LC.text_ (qi (LD + LB))).toNat : Int)))
        (
        zF.j2 K (zF.l1 K LC LE LD k) LB false))
      (
      zF.j2 K (zF.l1 K LC LE LD k) LB false)
def zF.m (K : Nat) (LD : xo) (LB : Int) (LC : Int) : qN Int :=
  zF.l1 K LD LB LC K (0 : Int)
def zW.j2 (K : Nat)  (LC : Int) (LB : Int) : qN (Int × Int) :=
  .ok (LC, LB)
def zW.l1 (K : Nat) (LG : xo) (LF : Int) (LC : (List Int)) : Nat → Int → Int → Int → qN (Int × Int)
  | 0, _, _, _ => .fail
  | k + 1, LD, LE, LB =>
    cond ((decide (LB < (32 : Int))) && (decide (LB < (LC.length : Int))))
      (
      chk (inb (qi ((qi ((LC.length : Int) - (1 : Int))) - LB)) LC.length) <|
      lt ((rd LC (qi ((qi ((LC.length : Int) - (1 : Int))) - LB)))) fun (LJ : Int) =>
      cond (decide ((qi (LF - LJ)) > (32768 : Int)))
        (
        zW.j2 K LD LE)
        (
        (zF.m K LG LJ LF).bind fun LK =>
        cond (decide (LK > LD))
          (
          lt ((qi (LB + (1 : Int)))) fun (LH : Int) =>
          zW.l1 K LG LF LC k LK (qi (LF - LJ)) LH)
          (
          lt ((qi (LB + (1 : Int)))) fun (LI : Int) =>
          zW.l1 K LG LF LC k LD LE LI)))
      (
      zW.j2 K LD LE)
def zW.m (K : Nat) (LB : xo) (LC : Int) : qN (Int × Int) :=
  cond (decide ((qi (LC + (3 : Int))) > (LB.text_.length : Int)))
    (
    .ok ((0 : Int), (0 : Int)))
    (
    (yy.m K LB LC).bind fun _ =>
    lt (vk LB.seen_ ([((rd LB.text_ LC).toNat : Int), ((rd LB.text_ (qi (LC + (1 : Int)))).toNat : Int), ((rd LB.text_ (qi (LC + (2 : Int)))).toNat : Int)] : List Int)) fun (LD : (List Int)) =>
    zW.l1 K LB LC LD K (0 : Int) (0 : Int) (0 : Int))
def yz.m (K : Nat) (LB : xo) (LC : Int) : qN (List ((List Int) × (List Int))) :=
  cond (decide ((qi (LC + (3 : Int))) ≤ (LB.text_.length : Int)))
    (
    (yy.m K LB LC).bind fun _ =>
    lt (vk LB.seen_ ([((rd LB.text_ LC).toNat : Int), ((rd LB.text_ (qi (LC + (1 : Int)))).toNat : Int), ((rd LB.text_ (qi (LC + (2 : Int)))).toNat : Int)] : List Int)) fun (LD : (List Int)) =>
    chk (room (LD.length + ([LC] : List Int).length) 8) <|
    lt (LD ++ ([LC] : List Int)) fun (LE : (List Int)) =>
    lt (QY LB.seen_ ([((rd LB.text_ LC).toNat : Int), ((rd LB.text_ (qi (LC + (1 : Int)))).toNat : Int), ((rd LB.text_ (qi (LC + (2 : Int)))).toNat : Int)] : List Int) LE) fun (LF : (List ((List Int) × (List Int)))) =>
    .ok LF)
    (
    .ok LB.seen_)
def zZ.l3 (K : Nat) (g1 : (List ((List Int) × (List Int))) → (List qv) → Int → qN (List qv)) (LG : List UInt8) (LB : Int) (LF : (List qv)) : Nat → (List ((List Int) × (List Int))) → Int → Int → qN (List qv)
  | 0, _, _, _ => .fail
  | k + 1, LC, LD, LH =>
    cond (decide (LH < (if LB > (1 : Int) then LB else (1 : Int))))
      (
      (yz.m K (xo.mk LG LC) LD).bind fun LE =>
      lt ((qi (LD + (1 : Int)))) fun (LI : Int) =>
      zZ.l3 K g1 LG LB LF k LE LI (qi (LH + (1 : Int))))
      (
      g1 LC LF LD)
def zZ.j2 (K : Nat) (g1 : (List ((List Int) × (List Int))) → (List qv) → Int → qN (List qv)) (LI : List UInt8) (LF : (List ((List Int) × (List Int)))) (LE : (List qv)) (LH : Int) (LD : Int) (LB : Int) (LC : Int) : qN (List qv) :=
  chk (room (LE.length + ([(qv.mk LD LB LC)] : List qv).length) 24) <|
  lt (LE ++ ([(qv.mk LD LB LC)] : List qv)) fun (LG : (List qv)) =>
  zZ.l3 K (g1) LI LB LG K LF LH (0 : Int)
def zZ.l1 (K : Nat) (LB : List UInt8) : Nat → (List ((List Int) × (List Int))) → (List qv) → Int → qN (List qv)
  | 0, _, _, _ => .fail
  | k + 1, LC, LE, LD =>
    cond (decide (LD < (LB.length : Int)))
      (
      (zW.m K (xo.mk LB LC) LD).bind fun (LF, LG) =>
      cond (decide (LF < (3 : Int)))
        (
        chk (inb LD LB.length) <|
        zZ.j2 K (zZ.l1 K LB k) LB LC LE LD ((rd LB LD).toNat : Int) (0 : Int) (0 : Int))
        (
        zZ.j2 K (zZ.l1 K LB k) LB LC LE LD (0 : Int) LF LG))
      (
      .ok LE)
def zZ.m (K : Nat) (LB : List UInt8) : qN (List qv) :=
  zZ.l1 K LB K ([] : List ((List Int) × (List Int))) ([] : List qv) (0 : Int)
def z6.j1 (K : Nat) (LD : (List qv)) (LB : List UInt8) : qN (List UInt8) :=
  (qg.m K LD).bind fun (LC, LE) =>
  cond ((LE == (0 : Int)) && (decide ((LC.length : Int) < (LB.length : Int))))
    (
    .ok LC)
    (
    .ok LB)
def z6.m (K : Nat) (LC : List UInt8) : qN (List UInt8) :=
  (zZ.m K LC).bind fun LB =>
  (zT.m K LC).bind fun LD =>
  (yA.m K LB).bind fun (LE, LF) =>
  cond ((LF == (0 : Int)) && (decide ((LE.length : Int) < (LD.length : Int))))
    (
    z6.j1 K LB LE)
    (
    z6.j1 K LB LD)
def xp.j1 (K : Nat)  (LB : Bool) : qN Bool :=
  .ok LB
def xp.m (K : Nat) : qN Bool :=
  (yA.m K ([(qv.mk (97 : Int) (0 : Int) (0 : Int))] : List qv)).bind fun (LB, LC) =>
  (qg.m K ([(qv.mk (0 : Int) (1 : Int) (0 : Int))] : List qv)).bind fun (LG, LD) =>
  (zT.m K ([] : List UInt8)).bind fun LE =>
  cond ((((LE == ([1, 0, 0, 255, 255] : List UInt8)) && (LB == ([75, 4, 0] : List UInt8))) && (LC == (0 : Int))) && (LD == (1 : Int)))
    (
    (z6.m K ([] : List UInt8)).bind fun LF =>
    xp.j1 K (!(LF == ([] : List UInt8))))
    (
    xp.j1 K false)
def zq.j2 (K : Nat) (g1 : (List UInt8) → (List Int) → qN (List UInt8)) (LD : List UInt8) (LE : (List Int)) (LB : Int) (LC : Int) : qN (List UInt8) :=
  chk (room (LE.length + ([LC, (wr .u8 (yk LB (256 : Int))), (wr .u8 (xA .i64 LB (256 : Int))), (wr .u8 (qi ((255 : Int) - (yk LB (256 : Int))))), (wr .u8 (qi ((255 : Int) - (xA .i64 LB (256 : Int)))))] : List Int).length) 1) <|
  lt (LE ++ ([LC, (wr .u8 (yk LB (256 : Int))), (wr .u8 (xA .i64 LB (256 : Int))), (wr .u8 (qi ((255 : Int) - (yk LB (256 : Int))))), (wr .u8 (qi ((255 : Int) - (xA .i64 LB (256 : Int)))))] : List Int)) fun (LF : (List Int)) =>
  chk (subok (0 : Int) LB LD.length) <|
  chk (room (LF.length + (sub LD (0 : Int) LB).length) 1) <|
  lt (LF ++ (sub LD (0 : Int) LB).map uB) fun (LG : (List Int)) =>
  chk (subok LB (LD.length : Int) LD.length) <|
  lt ((sub LD LB (LD.length : Int))) fun (LH : List UInt8) =>
  cond (LC == (1 : Int))
    (
    lt ((LG.map Q5)) fun (LI : List UInt8) =>
    .ok LI)
    (
    g1 LH LG)
def zq.l1 (K : Nat)  : Nat → (List UInt8) → (List Int) → qN (List UInt8)
  | 0, _, _ => .fail
  | k + 1, LB, LD =>
    lt ((if (LB.length : Int) < (65535 : Int) then (LB.length : Int) else (65535 : Int))) fun (LC : Int) =>
    cond (LC == (LB.length : Int))
      (
      zq.j2 K (zq.l1 K k) LB LD LC (1 : Int))
      (
      zq.j2 K (zq.l1 K k) LB LD LC (0 : Int))
def zq.m (K : Nat) (LB : List UInt8) : qN (List UInt8) :=
  zq.l1 K K LB ([] : List Int)
def zt.l3 (K : Nat) (LD : (List Int)) : Nat → (List Int) → Int → qN ((List Int) × (List Int))
  | 0, _, _ => .fail
  | k + 1, LC, LB =>
    cond (decide (LB < (32 : Int)))
      (
      chk (inb LB LC.length) <|
      lt (LC.set (Int.toNat LB) (5 : Int)) fun (LE : (List Int)) =>
      lt ((qi (LB + (1 : Int)))) fun (LF : Int) =>
      zt.l3 K LD k LE LF)
      (
      .ok (LD, LC))
def zt.j2 (K : Nat)  (LB : (List Int)) : qN ((List Int) × (List Int)) :=
  chk (decide (0 ≤ (32 : Int)) && room (Int.toNat (32 : Int)) 8) <|
  lt (List.replicate (Int.toNat (32 : Int)) (0 : Int)) fun (LC : (List Int)) =>
  zt.l3 K LB K LC (0 : Int)
def zt.l1 (K : Nat)  : Nat → (List Int) → Int → qN ((List Int) × (List Int))
  | 0, _, _ => .fail
  | k + 1, LC, LB =>
    cond (decide (LB < (288 : Int)))
      (
      lt (((decide (LB < (144 : Int))) || (decide (LB > (279 : Int))))) fun (LJ : Bool) =>
      cond LJ
        (
        chk (inb LB LC.length) <|
        lt (LC.set (Int.toNat LB) (8 : Int)) fun (LD : (List Int)) =>
        lt ((qi (LB + (1 : Int)))) fun (LG : Int) =>
        zt.l1 K k LD LG)
        (
        lt ((decide (LB < (256 : Int)))) fun (LK : Bool) =>
        cond LK
          (
          chk (inb LB LC.length) <|
          lt (LC.set (Int.toNat LB) (9 : Int)) fun (LE : (List Int)) =>
          lt ((qi (LB + (1 : Int)))) fun (LH : Int) =>
          zt.l1 K k LE LH)
          (
          chk (inb LB LC.length) <|
          lt (LC.set (Int.toNat LB) (7 : Int)) fun (LF : (List Int)) =>
          lt ((qi (LB + (1 : Int)))) fun (LI : Int) =>
          zt.l1 K k LF LI)))
      (
      zt.j2 K LC)
def zt.m (K : Nat) : qN ((List Int) × (List Int)) :=
  chk (decide (0 ≤ (288 : Int)) && room (Int.toNat (288 : Int)) 8) <|
  lt (List.replicate (Int.toNat (288 : Int)) (0 : Int)) fun (LB : (List Int)) =>
  zt.l1 K K LB (0 : Int)
def qM.j4 (K : Nat) (LB : Int) (LC : Bool) : qN Int :=
  cond (LC || (LB == (32768 : Int)))
    (
    .ok (0 : Int))
    (
    .ok (3 : Int))
def qM.j3 (K : Nat) (LB : Int) (LC : Bool) : qN Int :=
  qM.j4 K LB LC
def qM.j2 (K : Nat)  (LB : Int) (LD : Int) (LC : Int) : qN Int :=
  cond (LD == (0 : Int))
    (
    qM.j4 K LB true)
    (
    cond (LD == (1 : Int))
      (
      qM.j3 K LB (LC == (1 : Int)))
      (
      qM.j3 K LB false))
def qM.l1 (K : Nat) (LB : List Int) : Nat → Int → Int → Int → Int → qN Int
  | 0, _, _, _, _ => .fail
  | k + 1, LD, LF, LE, LC =>
    cond (decide (LC < (LB.length : Int)))
      (
      chk (inb LC LB.length) <|
      cond ((decide ((rd LB LC) < (0 : Int))) || (decide ((rd LB LC) > (15 : Int))))
        (
        .ok (1 : Int))
        (
        cond (decide ((rd LB LC) > (0 : Int)))
          (
          chk (decide (0 ≤ (wr .u64 (qi ((15 : Int) - (rd LB LC)))))) <|
          lt ((qi (LD + (xl .i64 (1 : Int) (wr .u64 (qi ((15 : Int) - (rd LB LC)))))))) fun (LH : Int) =>
          lt ((qi (LF + (1 : Int)))) fun (LI : Int) =>
          lt ((rd LB LC)) fun (LG : Int) =>
          lt ((qi (LC + (1 : Int)))) fun (LJ : Int) =>
          qM.l1 K LB k LH LI LG LJ)
          (
          lt ((qi (LC + (1 : Int)))) fun (LK : Int) =>
          qM.l1 K LB k LD LF LE LK)))
      (
      qM.j2 K LD LF LE)
def qM.m (K : Nat) (LB : List Int) : qN Int :=
  cond (decide ((LB.length : Int) > (320 : Int)))
    (
    .ok (1 : Int))
    (
    qM.l1 K LB K (0 : Int) (0 : Int) (0 : Int) (0 : Int))
def zb.l2 (K : Nat) (g1 : (List Int) → Int → Int → qN ((List Int) × Int)) (LF : List Int) (LB : Int) : Nat → (List Int) → Int → Int → qN ((List Int) × Int)
  | 0, _, _, _ => .fail
  | k + 1, LD, LC, LE =>
    cond (decide (LE < (LF.length : Int)))
      (
      chk (inb LE LF.length) <|
      cond ((rd LF LE) == LB)
        (
        chk (inb LE LD.length) <|
        lt (LD.set (Int.toNat LE) LC) fun (LI : (List Int)) =>
        lt ((qi (LC + (1 : Int)))) fun (LH : Int) =>
        lt ((qi (LE + (1 : Int)))) fun (LJ : Int) =>
        zb.l2 K g1 LF LB k LI LH LJ)
        (
        lt ((qi (LE + (1 : Int)))) fun (LK : Int) =>
        zb.l2 K g1 LF LB k LD LC LK))
      (
      lt ((qi (LB + (1 : Int)))) fun (LG : Int) =>
      g1 LD LC LG)
def zb.l1 (K : Nat) (LF : List Int) : Nat → (List Int) → Int → Int → qN ((List Int) × Int)
  | 0, _, _, _ => .fail
  | k + 1, LC, LD, LB =>
    cond (decide (LB ≤ (15 : Int)))
      (
      lt ((qi (LD * (2 : Int)))) fun (LE : Int) =>
      zb.l2 K (zb.l1 K LF k) LF LB K LC LE (0 : Int))
      (
      .ok (LC, (0 : Int)))
def zb.m (K : Nat) (LB : List Int) : qN ((List Int) × Int) :=
  (qM.m K LB).bind fun LC =>
  cond (LC != (0 : Int))
    (
    .ok (([] : List Int), LC))
    (
    chk (decide (0 ≤ (LB.length : Int)) && room (Int.toNat (LB.length : Int)) 8) <|
    lt (List.replicate (Int.toNat (LB.length : Int)) (0 : Int)) fun (LD : (List Int)) =>
    zb.l1 K LB K LD (0 : Int) (1 : Int))
def qG.l3 (K : Nat) (LC : Int) : Nat → (List Int) → Int → Int → qN (Int × (List Int))
  | 0, _, _, _ => .fail
  | k + 1, LB, LD, LE =>
    cond (decide (LE < LC))
      (
      chk (room (LB.length + ([(wr .u8 (yk LD (2 : Int)))] : List Int).length) 1) <|
      lt (LB ++ ([(wr .u8 (yk LD (2 : Int)))] : List Int)) fun (LF : (List Int)) =>
      lt ((xA .u32 LD (2 : Int))) fun (LH : Int) =>
      lt ((qi (LE + (1 : Int)))) fun (LG : Int) =>
      qG.l3 K LC k LF LH LG)
      (
      .ok ((0 : Int), LB))
def qG.j2 (K : Nat) (LB : qQ) (LD : Int) (LC : Int) (LE : Bool) : qN (Int × (List Int)) :=
  cond LE
    (
    .ok ((1 : Int), LB.B_))
    (
    qG.l3 K LC K LB.B_ LD (0 : Int))
def qG.j1 (K : Nat) (LC : qQ) (LD : Int) (LB : Int) (LE : Bool) : qN (Int × (List Int)) :=
  qG.j2 K LC LD LB LE
def qG.m (K : Nat) (LC : qQ) (LD : Int) (LB : Int) : qN (Int × (List Int)) :=
  cond ((decide (LB < (0 : Int))) || (decide (LB > (32 : Int))))
    (
    qG.j2 K LC LD LB true)
    (
    cond (decide (LB < (32 : Int)))
      (
      chk (decide (0 ≤ (wr .u64 LB))) <|
      qG.j1 K LC LD LB (decide (LD ≥ (xl .u32 (1 : Int) (wr .u64 LB)))))
      (
      qG.j1 K LC LD LB false))
def yJ.m (K : Nat) (LB : qv) : qN Bool :=
  cond (LB.Dist_ == (0 : Int))
    (
    lt ((LB.Len_ == (0 : Int))) fun (LC : Bool) =>
    .ok LC)
    (
    lt ((((((decide (LB.Dist_ ≥ (1 : Int))) && (decide (LB.Dist_ ≤ (32768 : Int)))) && (decide (LB.Len_ ≥ (3 : Int)))) && (decide (LB.Len_ ≤ (258 : Int)))) && (LB.Lit_ == (0 : Int)))) fun (LD : Bool) =>
    .ok LD)
def xe.l1 (K : Nat) (LC : List Int) (LB : Int) : Nat → (List Int) → Int → qN (List Int)
  | 0, _, _ => .fail
  | k + 1, LE, LD =>
    cond (decide (LD ≥ (0 : Int)))
      (
      chk (inb LB LC.length) <|
      chk (decide (0 ≤ (wr .u64 LD))) <|
      (qG.m K (qQ.mk LE) (yk (xF .u32 (wr .u32 (rd LC LB)) (wr .u64 LD)) (2 : Int)) (1 : Int)).bind fun (LH, LF) =>
      lt ((qi (LD - (1 : Int)))) fun (LG : Int) =>
      xe.l1 K LC LB k LF LG)
      (
      .ok LE)
def xe.m (K : Nat) (LF : qQ) (LD : List Int) (LC : List Int) (LB : Int) : qN (List Int) :=
  chk (inb LB LD.length) <|
  lt ((qi ((rd LD LB) - (1 : Int)))) fun (LE : Int) =>
  xe.l1 K LC LB K LF.B_ LE
def xS.m (K : Nat) (LC : Int) : qN (Int × Int) :=
  cond (LC == (285 : Int))
    (
    .ok ((258 : Int), (0 : Int)))
    (
    lt ((qi (LC - (257 : Int)))) fun (LD : Int) =>
    cond (decide (LD < (8 : Int)))
      (
      lt ((qi ((3 : Int) + LD))) fun (LE : Int) =>
      .ok (LE, (0 : Int)))
      (
      lt ((qi ((xA .i64 LD (4 : Int)) - (1 : Int)))) fun (LB : Int) =>
      chk (decide (0 ≤ (wr .u64 LB))) <|
      lt ((qi ((3 : Int) + (xl .i64 (qi ((4 : Int) + (yk LD (4 : Int)))) (wr .u64 LB))))) fun (LF : Int) =>
      .ok (LF, LB)))
def zA.l1 (K : Nat) (LC : Int) : Nat → Int → Int → qN Int
  | 0, _, _ => .fail
  | k + 1, LD, LB =>
    cond (decide (LB < (285 : Int)))
      (
      (xS.m K LB).bind fun (LG, LH) =>
      cond (decide (LG ≤ LC))
        (
        lt ((qi (LB + (1 : Int)))) fun (LE : Int) =>
        zA.l1 K LC k LB LE)
        (
        lt ((qi (LB + (1 : Int)))) fun (LF : Int) =>
        zA.l1 K LC k LD LF))
      (
      .ok LD)
def zA.m (K : Nat) (LB : Int) : qN Int :=
  cond (LB == (258 : Int))
    (
    .ok (285 : Int))
    (
    zA.l1 K LB K (257 : Int) (257 : Int))
def xK.m (K : Nat) (LB : Int) : qN (Int × Int) :=
  cond (decide (LB < (4 : Int)))
    (
    lt ((qi ((1 : Int) + LB))) fun (LD : Int) =>
    .ok (LD, (0 : Int)))
    (
    lt ((qi ((xA .i64 LB (2 : Int)) - (1 : Int)))) fun (LC : Int) =>
    chk (decide (0 ≤ (wr .u64 LC))) <|
    lt ((qi ((1 : Int) + (xl .i64 (qi ((2 : Int) + (yk LB (2 : Int)))) (wr .u64 LC))))) fun (LE : Int) =>
    .ok (LE, LC))
def zL.l1 (K : Nat) (LC : Int) : Nat → Int → Int → qN Int
  | 0, _, _ => .fail
  | k + 1, LD, LB =>
    cond (decide (LB < (30 : Int)))
      (
      (xK.m K LB).bind fun (LG, LH) =>
      cond (decide (LG ≤ LC))
        (
        lt ((qi (LB + (1 : Int)))) fun (LE : Int) =>
        zL.l1 K LC k LB LE)
        (
        lt ((qi (LB + (1 : Int)))) fun (LF : Int) =>
        zL.l1 K LC k LD LF))
      (
      .ok LD)
def zL.m (K : Nat) (LB : Int) : qN Int :=
  zL.l1 K LB K (0 : Int) (0 : Int)
def zC.l1 (K : Nat) (LD : qQ) : Nat → (List Int) → Int → qN (List UInt8)
  | 0, _, _ => .fail
  | k + 1, LC, LB =>
    cond (decide (LB < (LD.B_.length : Int)))
      (
      chk (inb (xA .i64 LB (8 : Int)) LC.length) <|
      chk (inb LB LD.B_.length) <|
      chk (decide (0 ≤ (wr .u64 (yk LB (8 : Int))))) <|
      lt (LC.set (Int.toNat (xA .i64 LB (8 : Int))) (wr .u8 ((rd LC (xA .i64 LB (8 : Int))) + (xl .u8 (rd LD.B_ LB) (wr .u64 (yk LB (8 : Int))))))) fun (LE : (List Int)) =>
      lt ((qi (LB + (1 : Int)))) fun (LF : Int) =>
      zC.l1 K LD k LE LF)
      (
      lt ((LC.map Q5)) fun (LG : List UInt8) =>
      .ok LG)
def zC.m (K : Nat) (LB : qQ) : qN (List UInt8) :=
  chk (decide (0 ≤ (xA .i64 (qi ((LB.B_.length : Int) + (7 : Int))) (8 : Int))) && room (Int.toNat (xA .i64 (qi ((LB.B_.length : Int) + (7 : Int))) (8 : Int))) 1) <|
  lt (List.replicate (Int.toNat (xA .i64 (qi ((LB.B_.length : Int) + (7 : Int))) (8 : Int))) (0 : Int)) fun (LC : (List Int)) =>
  zC.l1 K LB K LC (0 : Int)
def zJ.j2 (K : Nat) (LD : (List Int)) (LE : (List Int)) (LB : (List Int)) : qN ((List UInt8) × Int) :=
  (xe.m K (qQ.mk LB) LD LE (256 : Int)).bind fun LC =>
  (zC.m K (qQ.mk LC)).bind fun LF =>
  .ok (LF, (0 : Int))
def zJ.l1 (K : Nat) (LB : List qv) (LD : (List Int)) (LG : (List Int)) (LE : (List Int)) (LH : (List Int)) : Nat → (List Int) → Int → qN ((List UInt8) × Int)
  | 0, _, _ => .fail
  | k + 1, LF, LC =>
    cond (decide (LC < (LB.length : Int)))
      (
      chk (inb LC LB.length) <|
      (yJ.m K (qv.mk ((rd LB LC).Lit_) ((rd LB LC).Len_) ((rd LB LC).Dist_))).bind fun LR =>
      cond (!LR)
        (
        .ok (([] : List UInt8), (1 : Int)))
        (
        cond ((rd LB LC).Dist_ == (0 : Int))
          (
          (xe.m K (qQ.mk LF) LD LE (wr .i64 (rd LB LC).Lit_)).bind fun LK =>
          lt ((qi (LC + (1 : Int)))) fun (LP : Int) =>
          zJ.l1 K LB LD LG LE LH k LK LP)
          (
          (zA.m K ((rd LB LC).Len_)).bind fun LI =>
          (zL.m K ((rd LB LC).Dist_)).bind fun LJ =>
          (xS.m K LI).bind fun (LS, LT) =>
          (xK.m K LJ).bind fun (LU, LV) =>
          (xe.m K (qQ.mk LF) LD LE LI).bind fun LL =>
          (qG.m K (qQ.mk LL) (wr .u32 (qi ((rd LB LC).Len_ - LS))) LT).bind fun (LW, LM) =>
          (xe.m K (qQ.mk LM) LG LH LJ).bind fun LN =>
          (qG.m K (qQ.mk LN) (wr .u32 (qi ((rd LB LC).Dist_ - LU))) LV).bind fun (LX, LO) =>
          lt ((qi (LC + (1 : Int)))) fun (LQ : Int) =>
          zJ.l1 K LB LD LG LE LH k LO LQ)))
      (
      zJ.j2 K LD LE LF)
def zJ.m (K : Nat) (LB : List qv) : qN ((List UInt8) × Int) :=
  (zt.m K).bind fun (LC, LD) =>
  (zb.m K LC).bind fun (LF, LH) =>
  (zb.m K LD).bind fun (LG, LI) =>
  (qG.m K (qQ.mk ([] : List Int)) (3 : Int) (3 : Int)).bind fun (LJ, LE) =>
  zJ.l1 K LB LC LD LF LG K LE (0 : Int)
def za.j2 (K : Nat) (LC : qj) (LB : Int) (LD : Int) : qN (Int × Int × Int) :=
  .ok (LD, (0 : Int), (qi (LC.At_ + LB)))
def za.l1 (K : Nat) (LD : qj) (LE : Int) : Nat → Int → Int → qN (Int × Int × Int)
  | 0, _, _ => .fail
  | k + 1, LF, LC =>
    cond (decide (LC < LE))
      (
      lt ((qi (LD.At_ + LC))) fun (LB : Int) =>
      chk (inb (xA .i64 LB (8 : Int)) LD.S_.length) <|
      chk (decide (0 ≤ (wr .u64 (yk LB (8 : Int))))) <|
      lt ((yk (xF .u32 (wr .u32 ((rd LD.S_ (xA .i64 LB (8 : Int))).toNat : Int)) (wr .u64 (yk LB (8 : Int)))) (2 : Int))) fun (LG : Int) =>
      chk (decide (0 ≤ (wr .u64 LC))) <|
      lt ((wr .u32 (LF + (xl .u32 LG (wr .u64 LC))))) fun (LI : Int) =>
      lt ((qi (LC + (1 : Int)))) fun (LH : Int) =>
      za.l1 K LD LE k LI LH)
      (
      za.j2 K LD LE LF)
def za.m (K : Nat) (LC : qj) (LB : Int) : qN (Int × Int × Int) :=
  cond ((decide (LB < (0 : Int))) || (decide (LB > (32 : Int))))
    (
    .ok ((0 : Int), (1 : Int), LC.At_))
    (
    cond (decide (LB > (qi ((qi ((8 : Int) * (LC.S_.length : Int))) - LC.At_))))
      (
      .ok ((0 : Int), (2 : Int), LC.At_))
      (
      za.l1 K LC LB K (0 : Int) (0 : Int)))
def zD.m (K : Nat) (LE : qr) (LD : Int) (LB : Int) : qN (Int × Int × Int) :=
  (za.m K LE.r_ LD).bind fun (LG, LH, LC) =>
  lt ((qi (LB + (wr .i64 LG)))) fun (LF : Int) =>
  .ok (LF, LH, LC)
def zO.l1 (K : Nat)  : Nat → Int → qN Int
  | 0, _ => .fail
  | k + 1, LB =>
    cond ((yk LB (8 : Int)) != (0 : Int))
      (
      zO.l1 K k (qi (LB + (1 : Int))))
      (
      .ok LB)
def zO.m (K : Nat) (LB : qj) : qN Int :=
  zO.l1 K K LB.At_
def xC.m (K : Nat) (LE : qj) (LC : Int) : qN ((List UInt8) × Int × Int) :=
  cond (decide (LC < (0 : Int)))
    (
    .ok (([] : List UInt8), (1 : Int), LE.At_))
    (
    (zO.m K LE).bind fun LD =>
    lt ((xA .i64 LD (8 : Int))) fun (LB : Int) =>
    cond (decide (LC > (qi ((LE.S_.length : Int) - LB))))
      (
      .ok (([] : List UInt8), (2 : Int), LD))
      (
      chk (subok LB (qi (LB + LC)) LE.S_.length) <|
      lt ((sub LE.S_ LB (qi (LB + LC)))) fun (LF : List UInt8) =>
      .ok (LF, (0 : Int), (qi (LD + (qi ((8 : Int) * LC)))))))
def xR.m (K : Nat) (LB : qr) : qN (Int × Int × (List Int)) :=
  (xC.m K LB.r_ (4 : Int)).bind fun (LC, LG, LD) =>
  cond (LG != (0 : Int))
    (
    .ok (LG, LD, LB.out_))
    (
    chk (inb (0 : Int) LC.length) <|
    chk (inb (1 : Int) LC.length) <|
    lt ((qi ((wr .i64 ((rd LC (0 : Int)).toNat : Int)) + (qi ((256 : Int) * (wr .i64 ((rd LC (1 : Int)).toNat : Int))))))) fun (LF : Int) =>
    chk (inb (2 : Int) LC.length) <|
    chk (inb (3 : Int) LC.length) <|
    cond ((qi ((wr .i64 ((rd LC (2 : Int)).toNat : Int)) + (qi ((256 : Int) * (wr .i64 ((rd LC (3 : Int)).toNat : Int)))))) != (qi ((65535 : Int) - LF)))
      (
      .ok ((3 : Int), LD, LB.out_))
      (
      (xC.m K (qj.mk LB.r_.S_ LD) LF).bind fun (LH, LI, LE) =>
      cond (LI != (0 : Int))
        (
        .ok (LI, LE, LB.out_))
        (
        cond (decide (LF > (qi (LB.limit_ - (LB.out_.length : Int)))))
          (
          .ok ((11 : Int), LE, LB.out_))
          (
          chk (room (LB.out_.length + LH.length) 1) <|
          lt (LB.out_ ++ LH.map uB) fun (LJ : (List Int)) =>
          .ok ((0 : Int), LE, LJ)))))
def xE.m (K : Nat) (LB : List Int) : qN ((List Int) × Bool) :=
  (zb.m K LB).bind fun (LD, LE) =>
  lt ((LE == (0 : Int))) fun (LC : Bool) =>
  .ok (LD, LC)
def qL.j3 (K : Nat) (g1 : Int → Int → Int → qN (Int × Int × Int)) (LE : qj) (LF : Int) (LI : Int) (LC : Int) (LB : Bool) : qN (Int × Int × Int) :=
  cond (!LB)
    (
    .ok ((0 : Int), (3 : Int), LE.At_))
    (
    (za.m K (qj.mk LE.S_ LF) (1 : Int)).bind fun (LK, LH, LG) =>
    cond (LH != (0 : Int))
      (
      .ok ((0 : Int), LH, LE.At_))
      (
      lt ((qi ((qi ((2 : Int) * LI)) + (wr .i64 LK)))) fun (LJ : Int) =>
      lt ((qi (LC + (1 : Int)))) fun (LD : Int) =>
      g1 LG LJ LD))
def qL.l2 (K : Nat) (g1 : Int → Int → Int → qN (Int × Int × Int)) (LE : List Int) (LC : List Int) (LJ : qj) (LF : Int) (LH : Int) (LB : Int) : Nat → Bool → Int → qN (Int × Int × Int)
  | 0, _, _ => .fail
  | k + 1, LG, LD =>
    cond (decide (LD < (LE.length : Int)))
      (
      chk (inb LD LE.length) <|
      chk (imp true (((rd LE LD) == LB) && (decide (LB > (0 : Int)))) (inb LD LC.length)) <|
      cond ((((rd LE LD) == LB) && (decide (LB > (0 : Int)))) && ((rd LC LD) == LH))
        (
        .ok (LD, (0 : Int), LF))
        (
        cond LG
          (
          lt ((qi (LD + (1 : Int)))) fun (LK : Int) =>
          qL.l2 K g1 LE LC LJ LF LH LB k true LK)
          (
          cond (decide ((rd LE LD) > LB))
            (
            chk (inb LD LC.length) <|
            chk (decide (0 ≤ (wr .u64 (qi ((rd LE LD) - LB))))) <|
            lt (((xF .i64 (rd LC LD) (wr .u64 (qi ((rd LE LD) - LB)))) == LH)) fun (LI : Bool) =>
            lt ((qi (LD + (1 : Int)))) fun (LL : Int) =>
            qL.l2 K g1 LE LC LJ LF LH LB k LI LL)
            (
            lt ((qi (LD + (1 : Int)))) fun (LM : Int) =>
            qL.l2 K g1 LE LC LJ LF LH LB k false LM))))
      (
      qL.j3 K (g1) LJ LF LH LB LG)
def qL.j4 (K : Nat) (LB : qj) (LC : Int) : qN (Int × Int × Int) :=
  .ok ((0 : Int), (3 : Int), LB.At_)
def qL.l1 (K : Nat) (LE : List Int) (LC : List Int) (LF : qj) : Nat → Int → Int → Int → qN (Int × Int × Int)
  | 0, _, _, _ => .fail
  | k + 1, LD, LG, LB =>
    cond (decide (LB ≤ (15 : Int)))
      (
      qL.l2 K (qL.l1 K LE LC LF k) LE LC LF LD LG LB K false (0 : Int))
      (
      qL.j4 K LF LD)
def qL.m (K : Nat) (LD : List Int) (LB : List Int) (LC : qj) : qN (Int × Int × Int) :=
  qL.l1 K LD LB LC K LC.At_ (0 : Int) (0 : Int)
def zM.l1 (K : Nat) (LF : Int) (LD : Int) (LC : Int) : Nat → (List Int) → Int → qN (Int × Int × (List Int))
  | 0, _, _ => .fail
  | k + 1, LB, LE =>
    cond (decide (LE < LF))
      (
      chk (inb (qi ((LB.length : Int) - LD)) LB.length) <|
      chk (room (LB.length + ([(rd LB (qi ((LB.length : Int) - LD)))] : List Int).length) 1) <|
      lt (LB ++ ([(rd LB (qi ((LB.length : Int) - LD)))] : List Int)) fun (LG : (List Int)) =>
      lt ((qi (LE + (1 : Int)))) fun (LH : Int) =>
      zM.l1 K LF LD LC k LG LH)
      (
      .ok ((0 : Int), LC, LB))
def zM.m (K : Nat) (LB : qr) (LE : Int) (LC : zp) : qN (Int × Int × (List Int)) :=
  cond (decide (LE > (285 : Int)))
    (
    .ok ((3 : Int), LB.r_.At_, LB.out_))
    (
    (xS.m K LE).bind fun (LN, LO) =>
    (zD.m K LB LO LN).bind fun (LH, LI, LG) =>
    cond (LI != (0 : Int))
      (
      .ok (LI, LG, LB.out_))
      (
      (qL.m K LC.l_ LC.codes_ (qj.mk LB.r_.S_ LG)).bind fun (LJ, LK, LF) =>
      cond (LK != (0 : Int))
        (
        .ok (LK, LF, LB.out_))
        (
        cond (decide (LJ > (29 : Int)))
          (
          .ok ((3 : Int), LF, LB.out_))
          (
          (xK.m K LJ).bind fun (LP, LQ) =>
          (zD.m K (qr.mk (qj.mk LB.r_.S_ LF) LB.out_ LB.limit_) LQ LP).bind fun (LL, LM, LD) =>
          cond (LM != (0 : Int))
            (
            .ok (LM, LD, LB.out_))
            (
            cond (decide (LL > (LB.out_.length : Int)))
              (
              .ok ((3 : Int), LD, LB.out_))
              (
              cond (decide (LH > (qi (LB.limit_ - (LB.out_.length : Int)))))
                (
                .ok ((11 : Int), LD, LB.out_))
                (
                zM.l1 K LH LL LD K LB.out_ (0 : Int))))))))
def zE.l1 (K : Nat) (LF : qr) (LB : zp) (LC : zp) : Nat → Int → (List Int) → qN (Int × Int × (List Int))
  | 0, _, _ => .fail
  | k + 1, LJ, LD =>
    (qL.m K LB.l_ LB.codes_ (qj.mk LF.r_.S_ LJ)).bind fun (LG, LK, LE) =>
    cond (LK != (0 : Int))
      (
      .ok (LK, LE, LD))
      (
      cond (LG == (256 : Int))
        (
        .ok ((0 : Int), LE, LD))
        (
        cond (decide (LG < (256 : Int)))
          (
          cond (decide ((LD.length : Int) ≥ LF.limit_))
            (
            .ok ((11 : Int), LE, LD))
            (
            chk (room (LD.length + ([(wr .u8 LG)] : List Int).length) 1) <|
            lt (LD ++ ([(wr .u8 LG)] : List Int)) fun (LM : (List Int)) =>
            zE.l1 K LF LB LC k LE LM))
          (
          (zM.m K (qr.mk (qj.mk LF.r_.S_ LE) LD LF.limit_) LG LC).bind fun (LL, LH, LI) =>
          cond (LL != (0 : Int))
            (
            .ok (LL, LH, LI))
            (
            zE.l1 K LF LB LC k LH LI))))
def zE.m (K : Nat) (LD : qr) (LC : zp) (LB : zp) : qN (Int × Int × (List Int)) :=
  zE.l1 K LD LC LB K LD.r_.At_ LD.out_
def yN.m (K : Nat) : qN Unit :=
  .ok ()
def q7.j2 (K : Nat) (LF : Int) (LG : Int) (LB : Int) (LD : (List Int)) (LE : Bool) : qN (Int × Int × (List Int) × (List Int) × Int × Int) :=
  (xE.m K LD).bind fun (LC, LH) =>
  cond ((!LH) || (!LE))
    (
    .ok ((0 : Int), (0 : Int), ([] : List Int), ([] : List Int), (3 : Int), LB))
    (
    .ok (LF, LG, LD, LC, (0 : Int), LB))
def q7.l1 (K : Nat) (LG : qr) (LI : Int) (LJ : Int) (LK : Int) : Nat → Int → (List Int) → Bool → Int → qN (Int × Int × (List Int) × (List Int) × Int × Int)
  | 0, _, _, _, _ => .fail
  | k + 1, LE, LC, LD, LB =>
    cond (decide (LB < LK))
      (
      (zD.m K (qr.mk (qj.mk LG.r_.S_ LE) LG.out_ LG.limit_) (3 : Int) (0 : Int)).bind fun (LL, LM, LF) =>
      cond (LM != (0 : Int))
        (
        .ok ((0 : Int), (0 : Int), ([] : List Int), ([] : List Int), LM, LF))
        (
        chk (inb LB ([(16 : Int), (17 : Int), (18 : Int), (0 : Int), (8 : Int), (7 : Int), (9 : Int), (6 : Int), (10 : Int), (5 : Int), (11 : Int), (4 : Int), (12 : Int), (3 : Int), (13 : Int), (2 : Int), (14 : Int), (1 : Int), (15 : Int)] : List Int).length) <|
        chk (inb (rd ([(16 : Int), (17 : Int), (18 : Int), (0 : Int), (8 : Int), (7 : Int), (9 : Int), (6 : Int), (10 : Int), (5 : Int), (11 : Int), (4 : Int), (12 : Int), (3 : Int), (13 : Int), (2 : Int), (14 : Int), (1 : Int), (15 : Int)] : List Int) LB) LC.length) <|
        lt (LC.set (Int.toNat (rd ([(16 : Int), (17 : Int), (18 : Int), (0 : Int), (8 : Int), (7 : Int), (9 : Int), (6 : Int), (10 : Int), (5 : Int), (11 : Int), (4 : Int), (12 : Int), (3 : Int), (13 : Int), (2 : Int), (14 : Int), (1 : Int), (15 : Int)] : List Int) LB)) LL) fun (LN : (List Int)) =>
        lt ((LD || (decide (LL > (0 : Int))))) fun (LH : Bool) =>
        lt ((qi (LB + (1 : Int)))) fun (LO : Int) =>
        q7.l1 K LG LI LJ LK k LF LN LH LO))
      (
      q7.j2 K LI LJ LE LC LD)
def q7.m (K : Nat) (LB : qr) : qN (Int × Int × (List Int) × (List Int) × Int × Int) :=
  (zD.m K LB (5 : Int) (257 : Int)).bind fun (LF, LG, LD) =>
  cond (LG != (0 : Int))
    (
    .ok ((0 : Int), (0 : Int), ([] : List Int), ([] : List Int), LG, LD))
    (
    (zD.m K (qr.mk (qj.mk LB.r_.S_ LD) LB.out_ LB.limit_) (5 : Int) (1 : Int)).bind fun (LH, LI, LE) =>
    cond (LI != (0 : Int))
      (
      .ok ((0 : Int), (0 : Int), ([] : List Int), ([] : List Int), LI, LE))
      (
      (zD.m K (qr.mk (qj.mk LB.r_.S_ LE) LB.out_ LB.limit_) (4 : Int) (4 : Int)).bind fun (LL, LJ, LC) =>
      cond (LJ != (0 : Int))
        (
        .ok ((0 : Int), (0 : Int), ([] : List Int), ([] : List Int), LJ, LC))
        (
        cond ((decide (LF > (286 : Int))) || (decide (LH > (30 : Int))))
          (
          .ok ((0 : Int), (0 : Int), ([] : List Int), ([] : List Int), (3 : Int), LC))
          (
          chk (decide (0 ≤ (19 : Int)) && room (Int.toNat (19 : Int)) 8) <|
          lt (List.replicate (Int.toNat (19 : Int)) (0 : Int)) fun (LK : (List Int)) =>
          (yN.m K).bind fun _ =>
          q7.l1 K LB LF LH LL K LC LK false (0 : Int)))))
def qH.l3 (K : Nat) (g1 : Int → (List Int) → qN ((List Int) × Int × Int)) (LE : Int) (LB : Int) (LC : Int) : Nat → (List Int) → Int → qN ((List Int) × Int × Int)
  | 0, _, _ => .fail
  | k + 1, LD, LF =>
    cond (decide (LF < LC))
      (
      chk (room (LD.length + ([LB] : List Int).length) 8) <|
      lt (LD ++ ([LB] : List Int)) fun (LG : (List Int)) =>
      lt ((qi (LF + (1 : Int)))) fun (LH : Int) =>
      qH.l3 K g1 LE LB LC k LG LH)
      (
      g1 LE LD)
def qH.j2 (K : Nat) (g1 : Int → (List Int) → qN ((List Int) × Int × Int)) (LG : Int) (LD : (List Int)) (LC : Int) (LF : Int) (LE : Int) (LB : Int) : qN ((List Int) × Int × Int) :=
  cond (LF != (0 : Int))
    (
    .ok (([] : List Int), LF, LC))
    (
    cond (decide (LB > (qi (LG - (LD.length : Int)))))
      (
      .ok (([] : List Int), (3 : Int), LC))
      (
      qH.l3 K (g1) LC LE LB K LD (0 : Int)))
def qH.l1 (K : Nat) (LC : qr) (LD : Int) (LF : zp) : Nat → Int → (List Int) → qN ((List Int) × Int × Int)
  | 0, _, _ => .fail
  | k + 1, LH, LB =>
    cond (decide ((LB.length : Int) < LD))
      (
      (qL.m K LF.l_ LF.codes_ (qj.mk LC.r_.S_ LH)).bind fun (LG, LM, LE) =>
      cond (LM != (0 : Int))
        (
        .ok (([] : List Int), LM, LE))
        (
        cond (decide (LG < (16 : Int)))
          (
          chk (room (LB.length + ([LG] : List Int).length) 8) <|
          lt (LB ++ ([LG] : List Int)) fun (LN : (List Int)) =>
          qH.l1 K LC LD LF k LE LN)
          (
          lt ((LG == (16 : Int))) fun (LO : Bool) =>
          cond LO
            (
            cond ((LB.length : Int) == (0 : Int))
              (
              .ok (([] : List Int), (3 : Int), LE))
              (
              chk (inb (qi ((LB.length : Int) - (1 : Int))) LB.length) <|
              lt ((rd LB (qi ((LB.length : Int) - (1 : Int))))) fun (LI : Int) =>
              (zD.m K (qr.mk (qj.mk LC.r_.S_ LE) LC.out_ LC.limit_) (2 : Int) (3 : Int)).bind fun (LQ, LR, LJ) =>
              qH.j2 K (qH.l1 K LC LD LF k) LD LB LJ LR LI LQ))
            (
            lt ((LG == (17 : Int))) fun (LP : Bool) =>
            cond LP
              (
              (zD.m K (qr.mk (qj.mk LC.r_.S_ LE) LC.out_ LC.limit_) (3 : Int) (3 : Int)).bind fun (LS, LT, LK) =>
              qH.j2 K (qH.l1 K LC LD LF k) LD LB LK LT (0 : Int) LS)
              (
              (zD.m K (qr.mk (qj.mk LC.r_.S_ LE) LC.out_ LC.limit_) (7 : Int) (11 : Int)).bind fun (LU, LV, LL) =>
              qH.j2 K (qH.l1 K LC LD LF k) LD LB LL LV (0 : Int) LU)))))
      (
      .ok (LB, (0 : Int), LH))
def qH.m (K : Nat) (LB : qr) (LD : Int) (LC : zp) : qN ((List Int) × Int × Int) :=
  qH.l1 K LB LD LC K LB.r_.At_ ([] : List Int)
def xO.m (K : Nat) (LB : qr) : qN (Int × Int × (List Int)) :=
  (q7.m K LB).bind fun (LE, LS, LR, LG, LN, LF) =>
  cond (LN != (0 : Int))
    (
    .ok (LN, LF, LB.out_))
    (
    (qH.m K (qr.mk (qj.mk LB.r_.S_ LF) LB.out_ LB.limit_) (qi (LE + LS)) (zp.mk LR LG)).bind fun (LC, LO, LD) =>
    cond (LO != (0 : Int))
      (
      .ok (LO, LD, LB.out_))
      (
      chk (subok (0 : Int) LE LC.length) <|
      lt (sub LC (0 : Int) LE) fun (LJ : (List Int)) =>
      (xE.m K LJ).bind fun (LH, LP) =>
      chk (subok LE (LC.length : Int) LC.length) <|
      lt (sub LC LE (LC.length : Int)) fun (LK : (List Int)) =>
      (xE.m K LK).bind fun (LI, LQ) =>
      chk (imp false ((!LP) || (!LQ)) (inb (256 : Int) LC.length)) <|
      cond (((!LP) || (!LQ)) || ((rd LC (256 : Int)) == (0 : Int)))
        (
        .ok ((3 : Int), LD, LB.out_))
        (
        (zE.m K (qr.mk (qj.mk LB.r_.S_ LD) LB.out_ LB.limit_) (zp.mk LJ LH) (zp.mk LK LI)).bind fun (LT, LL, LM) =>
        .ok (LT, LL, LM))))
def xX.m (K : Nat) (LB : qr) : qN (Bool × Int × Int × (List Int)) :=
  (zD.m K LB (1 : Int) (0 : Int)).bind fun (LG, LO, LD) =>
  cond (LO != (0 : Int))
    (
    .ok (false, LO, LD, LB.out_))
    (
    (zD.m K (qr.mk (qj.mk LB.r_.S_ LD) LB.out_ LB.limit_) (2 : Int) (0 : Int)).bind fun (LH, LP, LC) =>
    cond (LP != (0 : Int))
      (
      .ok (false, LP, LC, LB.out_))
      (
      lt ((LH == (0 : Int))) fun (LS : Bool) =>
      cond LS
        (
        (xR.m K (qr.mk (qj.mk LB.r_.S_ LC) LB.out_ LB.limit_)).bind fun (LY, LI, LL) =>
        lt ((LG == (1 : Int))) fun (LT : Bool) =>
        .ok (LT, LY, LI, LL))
        (
        lt ((LH == (1 : Int))) fun (LU : Bool) =>
        cond LU
          (
          (zt.m K).bind fun (LQ, LR) =>
          (xE.m K LQ).bind fun (LE, L1) =>
          (xE.m K LR).bind fun (LF, L3) =>
          (zE.m K (qr.mk (qj.mk LB.r_.S_ LC) LB.out_ LB.limit_) (zp.mk LQ LE) (zp.mk LR LF)).bind fun (LZ, LJ, LM) =>
          lt ((LG == (1 : Int))) fun (LV : Bool) =>
          .ok (LV, LZ, LJ, LM))
          (
          lt ((LH == (2 : Int))) fun (LW : Bool) =>
          cond LW
            (
            (xO.m K (qr.mk (qj.mk LB.r_.S_ LC) LB.out_ LB.limit_)).bind fun (L0, LK, LN) =>
            lt ((LG == (1 : Int))) fun (LX : Bool) =>
            .ok (LX, L0, LK, LN))
            (
            .ok (false, (3 : Int), LC, LB.out_))))))
def xc.l1 (K : Nat) (LG : List UInt8) (LB : Int) : Nat → Int → (List Int) → qN ((List UInt8) × Int × Int)
  | 0, _, _ => .fail
  | k + 1, LE, LF =>
    (xX.m K (qr.mk (qj.mk LG LE) LF LB)).bind fun (LK, LH, LC, LD) =>
    cond (LH != (0 : Int))
      (
      .ok (([] : List UInt8), (0 : Int), LH))
      (
      cond LK
        (
        lt ((LD.map Q5)) fun (LI : List UInt8) =>
        lt ((xA .i64 (qi (LC + (7 : Int))) (8 : Int))) fun (LJ : Int) =>
        .ok (LI, LJ, (0 : Int)))
        (
        xc.l1 K LG LB k LC LD))
def xc.m (K : Nat) (LC : List UInt8) (LB : Int) : qN ((List UInt8) × Int × Int) :=
  cond ((decide (LB < (0 : Int))) || (decide (LB > (1073741824 : Int))))
    (
    .ok (([] : List UInt8), (0 : Int), (1 : Int)))
    (
    xc.l1 K LC LB K (0 : Int) ([] : List Int))
def xa.j1 (K : Nat)  (LB : Bool) : qN Bool :=
  .ok LB
def xa.m (K : Nat) (LB : List UInt8) : qN Bool :=
  cond (decide ((LB.length : Int) > (4000 : Int)))
    (
    (xp.m K).bind fun LD =>
    .ok LD)
    (
    (z6.m K LB).bind fun LC =>
    (xc.m K LC (LB.length : Int)).bind fun (LE, LF, LG) =>
    (zq.m K LB).bind fun LH =>
    (zZ.m K LB).bind fun LI =>
    (zJ.m K LI).bind fun (LJ, LK) =>
    cond ((((((LE == LB) && (LF == (LC.length : Int))) && (LG == (0 : Int))) && (LK == (0 : Int))) && (decide ((LC.length : Int) ≤ (LH.length : Int)))) && (decide ((LC.length : Int) ≤ (LJ.length : Int))))
      (
      (xp.m K).bind fun LL =>
      xa.j1 K LL)
      (
      xa.j1 K false))
end Go.Mo
