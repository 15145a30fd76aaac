/- Models of the Go functions that this statement reaches, printed by a program of mine: nothing is proved but lengths of tables. -/
import Derived.Test.YtjgcmokfinicnaaDoorOwn
set_option linter.unusedVariables false
set_option linter.unusedSimpArgs false
namespace Go.Mo
open Go Go.Sl
structure qp where
  Lit_ : Int
  Len_ : Int
  Dist_ : Int
  deriving Inhabited
structure qJ where
  at_ : Int
  deriving Inhabited
structure qG where
  place_ : qJ
  bytes_ : (List Int)
  deriving Inhabited
structure qq where
  lengths_ : (List Int)
  codes_ : (List Int)
  deriving Inhabited
structure qn where
  Writer_ : qG
  literals_ : qq
  distances_ : qq
  deriving Inhabited
structure z4 where
  symbol_ : Int
  bits_ : Int
  more_ : Int
  deriving Inhabited
structure qb where
  often_ : Int
  symbols_ : (List Int)
  deriving Inhabited
structure ql where
  symbol_ : Int
  more_ : Int
  bits_ : Int
  deriving Inhabited
structure zK where
  text_ : List UInt8
  seen_ : (List ((List Int) × (List Int)))
  deriving Inhabited
structure ZN where
  B_ : (List Int)
  deriving Inhabited
structure vi where
  S_ : List UInt8
  At_ : Int
  deriving Inhabited
structure Z6 where
  r_ : vi
  out_ : (List Int)
  limit_ : Int
  deriving Inhabited
structure XF where
  l_ : (List Int)
  codes_ : (List Int)
  deriving Inhabited
structure QQ where
  place_ : qJ
  text_ : List UInt8
  deriving Inhabited
structure YC where
  Reader_ : QQ
  out_ : (List Int)
  limit_ : Int
  deriving Inhabited
structure jT where
  counts_ : (List Int)
  symbols_ : (List Int)
  deriving Inhabited
structure vH where
  from_ : Int
  bits_ : Int
  deriving Inhabited
abbrev vx : TypeId := 9
abbrev jp : TypeId := 94
def tab_deflate_order : List Int := [16, 17, 18, 0, 8, 7, 9, 6, 10, 5, 11, 4, 12, 3, 13, 2, 14, 1, 15]
theorem vg : tab_deflate_order.length = 19 := by decide
def tab_inflate_lengths : List vH := [⟨3, 0⟩, ⟨4, 0⟩, ⟨5, 0⟩, ⟨6, 0⟩, ⟨7, 0⟩, ⟨8, 0⟩, ⟨9, 0⟩, ⟨10, 0⟩, ⟨11, 1⟩, ⟨13, 1⟩, ⟨15, 1⟩, ⟨17, 1⟩, ⟨19, 2⟩, ⟨23, 2⟩, ⟨27, 2⟩, ⟨31, 2⟩, ⟨35, 3⟩, ⟨43, 3⟩, ⟨51, 3⟩, ⟨59, 3⟩, ⟨67, 4⟩, ⟨83, 4⟩, ⟨99, 4⟩, ⟨115, 4⟩, ⟨131, 5⟩, ⟨163, 5⟩, ⟨195, 5⟩, ⟨227, 5⟩, ⟨258, 0⟩]
def tab_inflate_distances : List vH := [⟨1, 0⟩, ⟨2, 0⟩, ⟨3, 0⟩, ⟨4, 0⟩, ⟨5, 1⟩, ⟨7, 1⟩, ⟨9, 2⟩, ⟨13, 2⟩, ⟨17, 3⟩, ⟨25, 3⟩, ⟨33, 4⟩, ⟨49, 4⟩, ⟨65, 5⟩, ⟨97, 5⟩, ⟨129, 6⟩, ⟨193, 6⟩, ⟨257, 7⟩, ⟨385, 7⟩, ⟨513, 8⟩, ⟨769, 8⟩, ⟨1025, 9⟩, ⟨1537, 9⟩, ⟨2049, 10⟩, ⟨3073, 10⟩, ⟨4097, 11⟩, ⟨6145, 11⟩, ⟨8193, 12⟩, ⟨12289, 12⟩, ⟨16385, 13⟩, ⟨24577, 13⟩]
def y7.m (K : Nat) (Bn : qp) : qW Bool :=
  cond (Bn.Dist_ == (0 : Int))
    (
    lt ((Bn.Len_ == (0 : Int))) fun (Bo : Bool) =>
    .ok Bo)
    (
    lt ((((((decide (Bn.Dist_ > (0 : Int))) && (decide (Bn.Dist_ ≤ (32768 : Int)))) && (decide (Bn.Len_ ≥ (3 : Int)))) && (decide (Bn.Len_ ≤ (258 : Int)))) && (Bn.Lit_ == (0 : Int)))) fun (Bp : Bool) =>
    .ok Bp)
def xj.l1 (K : Nat) (Bn : Int) : Nat → Int → Int → qW Int
  | 0, _, _ => .fail
  | k + 1, Bo, Bp =>
    chk (decide (0 ≤ Bn)) <|
    cond (decide (Bo ≥ (zV .i64 (2 : Int) Bn)))
      (
      lt ((zR .i64 Bo (1 : Int))) fun (Bq : Int) =>
      lt ((qk (Bp + (1 : Int)))) fun (Br : Int) =>
      xj.l1 K Bn k Bq Br)
      (
      .ok Bp)
def xj.m (K : Nat) (Bo : Int) (Bn : Int) : qW Int :=
  xj.l1 K Bn K Bo (0 : Int)
def xO.m (K : Nat) (Bn : Int) : qW Int :=
  lt ((Bn == (258 : Int))) fun (Bo : Bool) =>
  cond Bo
    (
    .ok (8 : Int))
    (
    lt ((decide (Bn ≥ (115 : Int)))) fun (Bp : Bool) =>
    cond Bp
      (
      (xj.m K (qk (Bn - (3 : Int))) (2 : Int)).bind fun Bq =>
      lt ((qk ((8 : Int) + Bq))) fun (Br : Int) =>
      .ok Br)
      (
      (xj.m K (qk (Bn - (3 : Int))) (2 : Int)).bind fun Bs =>
      lt ((qk ((7 : Int) + Bs))) fun (Bt : Int) =>
      .ok Bt))
def xc.l1 (K : Nat) (Bn : List qp) : Nat → Int → Int → qW (Int × Int)
  | 0, _, _ => .fail
  | k + 1, Bp, Bo =>
    cond (decide (Bo < (Bn.length : Int)))
      (
      chk (inb Bo Bn.length) <|
      (y7.m K (qp.mk ((rd Bn Bo).Lit_) ((rd Bn Bo).Len_) ((rd Bn Bo).Dist_))).bind fun Bt =>
      lt ((!Bt)) fun (Bu : Bool) =>
      cond Bu
        (
        .ok ((0 : Int), (1 : Int)))
        (
        lt ((((rd Bn Bo).Dist_ == (0 : Int)) && (decide ((rd Bn Bo).Lit_ < (144 : Int))))) fun (Bv : Bool) =>
        cond Bv
          (
          lt ((qk (Bp + (8 : Int)))) fun (Bq : Int) =>
          xc.l1 K Bn k Bq (qk (Bo + (1 : Int))))
          (
          lt (((rd Bn Bo).Dist_ == (0 : Int))) fun (Bw : Bool) =>
          cond Bw
            (
            lt ((qk (Bp + (9 : Int)))) fun (Br : Int) =>
            xc.l1 K Bn k Br (qk (Bo + (1 : Int))))
            (
            (xO.m K ((rd Bn Bo).Len_)).bind fun Bx =>
            (xj.m K (qk ((rd Bn Bo).Dist_ - (1 : Int))) (1 : Int)).bind fun By =>
            lt ((qk (Bp + (qk ((qk (Bx + (5 : Int))) + By))))) fun (Bs : Int) =>
            xc.l1 K Bn k Bs (qk (Bo + (1 : Int)))))))
      (
      .ok (Bp, (0 : Int)))
def xc.m (K : Nat) (Bn : List qp) : qW (Int × Int) :=
  xc.l1 K Bn K (7 : Int) (0 : Int)
def yi.m (K : Nat) (Bn : List qp) : qW Bool :=
  (xc.m K Bn).bind fun (Bq, Bo) =>
  lt ((Bo == (0 : Int))) fun (Bp : Bool) =>
  .ok Bp
def zD.j2 (K : Nat)  (Bn : (List Int)) : qW ((List Int) × Bool) :=
  lt (Bn.set (Int.toNat (0 : Int)) (0 : Int)) fun (Bo : (List Int)) =>
  .ok (Bo, true)
def zD.l1 (K : Nat) (Bn : List Int) : Nat → (List Int) → Int → qW ((List Int) × Bool)
  | 0, _, _ => .fail
  | k + 1, Bp, Bq =>
    cond (decide (Bq < (Bn.length : Int)))
      (
      chk (inb Bq Bn.length) <|
      lt ((rd Bn Bq)) fun (Bo : Int) =>
      cond ((decide (Bo < (0 : Int))) || (decide (Bo > (15 : Int))))
        (
        .ok (Bp, false))
        (
        chk (inb Bo 16) <|
        lt (Bp.set (Int.toNat Bo) (qk ((rd Bp Bo) + (1 : Int)))) fun (Br : (List Int)) =>
        zD.l1 K Bn k Br (qk (Bq + (1 : Int)))))
      (
      zD.j2 K Bp)
def zD.m (K : Nat) (Bn : List Int) : qW ((List Int) × Bool) :=
  cond (decide ((Bn.length : Int) > (320 : Int)))
    (
    .ok ((List.replicate 16 (0 : Int)), false))
    (
    zD.l1 K Bn K (List.replicate 16 (0 : Int)) (0 : Int))
def zO.j2 (K : Nat) (Bo : (List Int)) (Bn : Int) : qW Int :=
  cond (((Bn == (0 : Int)) || (Bn == (32768 : Int))) || (Bo == ([0, (1 : Int), 0, 0, 0, 0, 0, 0, 0, 0, 0, 0, 0, 0, 0, 0] : List Int)))
    (
    .ok (0 : Int))
    (
    .ok (3 : Int))
def zO.l1 (K : Nat) (Bp : (List Int)) : Nat → Int → Int → qW Int
  | 0, _, _ => .fail
  | k + 1, Bo, Bn =>
    cond (decide (Bn < (16 : Int)))
      (
      chk (inb Bn 16) <|
      lt ((rd Bp Bn)) fun (Br : Int) =>
      chk (decide (0 ≤ Bn)) <|
      lt ((qk (Bo + (qk (Br * (zR .i64 (32768 : Int) Bn)))))) fun (Bq : Int) =>
      zO.l1 K Bp k Bq (qk (Bn + (1 : Int))))
      (
      zO.j2 K Bp Bo)
def zO.m (K : Nat) (Bn : List Int) : qW Int :=
  (zD.m K Bn).bind fun (Bo, Bp) =>
  cond (!Bp)
    (
    .ok (1 : Int))
    (
    zO.l1 K Bo K (0 : Int) (0 : Int))
def zg.j2 (K : Nat)  (Bn : (List Int)) : qW (List Int) :=
  .ok Bn
def zg.l1 (K : Nat) (Br : List Int) : Nat → (List Int) → Int → Int → qW (List Int)
  | 0, _, _, _ => .fail
  | k + 1, Bo, Bq, Bn =>
    cond (decide (Bn ≤ (15 : Int)))
      (
      chk (inb (qk (Bn - (1 : Int))) 16) <|
      lt ((zV .i64 (qk (Bq + (rd Br (qk (Bn - (1 : Int)))))) (1 : Int))) fun (Bp : Int) =>
      chk (inb Bn 16) <|
      lt (Bo.set (Int.toNat Bn) Bp) fun (Bs : (List Int)) =>
      lt ((qk (Bn + (1 : Int)))) fun (Bt : Int) =>
      zg.l1 K Br k Bs Bp Bt)
      (
      zg.j2 K Bo)
def zg.m (K : Nat) (Bn : List Int) : qW (List Int) :=
  zg.l1 K Bn K (List.replicate 16 (0 : Int)) (0 : Int) (1 : Int)
def xk.l1 (K : Nat) (Bn : List Int) : Nat → (List Int) → (List Int) → Int → qW ((List Int) × Int)
  | 0, _, _, _ => .fail
  | k + 1, Bo, Bp, Br =>
    cond (decide (Br < (Bn.length : Int)))
      (
      chk (inb Br Bn.length) <|
      lt ((rd Bn Br)) fun (Bq : Int) =>
      cond (decide (Bq > (0 : Int)))
        (
        chk (inb Bq 16) <|
        chk (inb Br Bp.length) <|
        lt (Bp.set (Int.toNat Br) (rd Bo Bq)) fun (Bs : (List Int)) =>
        lt (Bo.set (Int.toNat Bq) (qk ((rd Bo Bq) + (1 : Int)))) fun (Bt : (List Int)) =>
        xk.l1 K Bn k Bt Bs (qk (Br + (1 : Int))))
        (
        xk.l1 K Bn k Bo Bp (qk (Br + (1 : Int)))))
      (
      .ok (Bp, (0 : Int)))
def xk.m (K : Nat) (Bn : List Int) : qW ((List Int) × Int) :=
  (zO.m K Bn).bind fun Bo =>
  cond (Bo != (0 : Int))
    (
    .ok (([] : List Int), Bo))
    (
    (zD.m K Bn).bind fun (Bq, Bs) =>
    (zg.m K Bq).bind fun Br =>
    chk (decide (0 ≤ (Bn.length : Int)) && room (Int.toNat (Bn.length : Int)) 8) <|
    lt (List.replicate (Int.toNat (Bn.length : Int)) (0 : Int)) fun (Bp : (List Int)) =>
    xk.l1 K Bn K Br Bp (0 : Int))
def xo.m (K : Nat) (Bn : List Int) : qW (List Int) :=
  (xk.m K Bn).bind fun (Bo, Bp) =>
  .ok Bo
def qN.j4 (K : Nat) (Bp : (List Int)) (Bq : (List Int)) : qW ((List Int) × (List Int) × (List Int) × (List Int)) :=
  (xo.m K Bp).bind fun Bn =>
  (xo.m K Bq).bind fun Bo =>
  .ok (Bp, Bn, Bq, Bo)
def qN.l3 (K : Nat) (Bo : (List Int)) (Bp : (List Int)) : Nat → (List Int) → Int → qW ((List Int) × (List Int) × (List Int) × (List Int))
  | 0, _, _ => .fail
  | k + 1, Bq, Bn =>
    cond (decide (Bn < (Bp.length : Int)))
      (
      chk (inb Bn Bq.length) <|
      lt (Bq.set (Int.toNat Bn) (5 : Int)) fun (Br : (List Int)) =>
      qN.l3 K Bo Bp k Br (qk (Bn + (1 : Int))))
      (
      qN.j4 K Bo Bq)
def qN.j2 (K : Nat)  (Bo : (List Int)) : qW ((List Int) × (List Int) × (List Int) × (List Int)) :=
  chk (decide (0 ≤ (32 : Int)) && room (Int.toNat (32 : Int)) 8) <|
  lt (List.replicate (Int.toNat (32 : Int)) (0 : Int)) fun (Bn : (List Int)) =>
  qN.l3 K Bo Bn K Bn (0 : Int)
def qN.l1 (K : Nat) (Bp : (List Int)) : Nat → (List Int) → Int → qW ((List Int) × (List Int) × (List Int) × (List Int))
  | 0, _, _ => .fail
  | k + 1, Bo, Bn =>
    cond (decide (Bn < (Bp.length : Int)))
      (
      lt (((decide (Bn < (144 : Int))) || (decide (Bn ≥ (280 : Int))))) fun (Bt : Bool) =>
      cond Bt
        (
        chk (inb Bn Bo.length) <|
        lt (Bo.set (Int.toNat Bn) (8 : Int)) fun (Bq : (List Int)) =>
        qN.l1 K Bp k Bq (qk (Bn + (1 : Int))))
        (
        lt ((decide (Bn < (256 : Int)))) fun (Bu : Bool) =>
        cond Bu
          (
          chk (inb Bn Bo.length) <|
          lt (Bo.set (Int.toNat Bn) (9 : Int)) fun (Br : (List Int)) =>
          qN.l1 K Bp k Br (qk (Bn + (1 : Int))))
          (
          chk (inb Bn Bo.length) <|
          lt (Bo.set (Int.toNat Bn) (7 : Int)) fun (Bs : (List Int)) =>
          qN.l1 K Bp k Bs (qk (Bn + (1 : Int))))))
      (
      qN.j2 K Bo)
def qN.m (K : Nat) : qW ((List Int) × (List Int) × (List Int) × (List Int)) :=
  chk (decide (0 ≤ (288 : Int)) && room (Int.toNat (288 : Int)) 8) <|
  lt (List.replicate (Int.toNat (288 : Int)) (0 : Int)) fun (Bn : (List Int)) =>
  qN.l1 K Bn K Bn (0 : Int)
def qm.j2 (K : Nat) (g1 : Int → (List Int) → Int → Int → qW (Int × Int × (List Int))) (Bn : Int) (Br : Int) (Bq : Int) (Bp : (List Int)) : qW (Int × Int × (List Int)) :=
  lt ((if Bq < (qk ((8 : Int) - (xh .i64 Bn (7 : Int)))) then Bq else (qk ((8 : Int) - (xh .i64 Bn (7 : Int)))))) fun (Bo : Int) =>
  chk (inb (jj .i64 Bn (8 : Int)) Bp.length) <|
  chk (decide (0 ≤ Bo)) <|
  chk (decide (0 ≤ (xh .i64 Bn (7 : Int)))) <|
  lt (Bp.set (Int.toNat (jj .i64 Bn (8 : Int))) (VR .u8 (rd Bp (jj .i64 Bn (8 : Int))) (zV .u8 (wr .u8 (xh .u32 Br (wr .u32 ((zV .u32 (1 : Int) Bo) - (1 : Int))))) (xh .i64 Bn (7 : Int))))) fun (Bs : (List Int)) =>
  lt ((zR .u32 Br Bo)) fun (Bu : Int) =>
  lt ((qk (Bq - Bo))) fun (Bt : Int) =>
  g1 (qk (Bn + Bo)) Bs Bu Bt
def qm.l1 (K : Nat)  : Nat → Int → (List Int) → Int → Int → qW (Int × Int × (List Int))
  | 0, _, _, _, _ => .fail
  | k + 1, Bo, Bn, Bq, Bp =>
    cond (decide (Bp > (0 : Int)))
      (
      cond ((xh .i64 Bo (7 : Int)) == (0 : Int))
        (
        chk (room (Bn.length + ([(0 : Int)] : List Int).length) 1) <|
        lt (Bn ++ ([(0 : Int)] : List Int)) fun (Br : (List Int)) =>
        qm.j2 K (qm.l1 K k) Bo Bq Bp Br)
        (
        qm.j2 K (qm.l1 K k) Bo Bq Bp Bn))
      (
      .ok ((0 : Int), Bo, Bn))
def qm.m (K : Nat) (Bo : qn) (Bp : Int) (Bn : Int) : qW (Int × Int × (List Int)) :=
  chk (imp false ((decide (Bn < (0 : Int))) || (decide (Bn > (32 : Int)))) (decide (0 ≤ Bn))) <|
  cond (((decide (Bn < (0 : Int))) || (decide (Bn > (32 : Int)))) || (decide ((zR .u64 (wr .u64 Bp) Bn) > (0 : Int))))
    (
    .ok ((1 : Int), Bo.Writer_.place_.at_, Bo.Writer_.bytes_))
    (
    qm.l1 K K Bo.Writer_.place_.at_ Bo.Writer_.bytes_ Bp Bn)
def zh.l1 (K : Nat) (Bn : qn) (Bs : Int) : Nat → Int → (List Int) → Int → qW (Int × (List Int))
  | 0, _, _, _ => .fail
  | k + 1, Bp, Bo, Br =>
    cond (decide (Br ≥ (0 : Int)))
      (
      chk (inb Bs Bn.literals_.codes_.length) <|
      chk (decide (0 ≤ Br)) <|
      (qm.m K (qn.mk (qG.mk (qJ.mk Bp) Bo) Bn.literals_ Bn.distances_) (wr .u32 (xh .i64 (zR .i64 (rd Bn.literals_.codes_ Bs) Br) (1 : Int))) (1 : Int)).bind fun (Bv, Bt, Bq) =>
      lt ((qk (Br - (1 : Int)))) fun (Bu : Int) =>
      zh.l1 K Bn Bs k Bt Bq Bu)
      (
      .ok (Bp, Bo))
def zh.m (K : Nat) (Bn : qn) (Bq : qq) (Bo : Int) : qW (Int × (List Int)) :=
  chk (inb Bo Bn.literals_.lengths_.length) <|
  lt ((qk ((rd Bn.literals_.lengths_ Bo) - (1 : Int)))) fun (Bp : Int) =>
  zh.l1 K Bn Bo K Bn.Writer_.place_.at_ Bn.Writer_.bytes_ Bp
def zy.j2 (K : Nat) (Bq : Int) (Bn : Int) (Bo : Int) (Bp : Int) : qW (Int × Int × Int) :=
  chk (decide (0 ≤ Bn)) <|
  chk (decide (0 ≤ Bo)) <|
  .ok ((qk ((zV .i64 Bo Bn) + Bp)), Bo, (wr .u32 (qk (Bq - (zV .i64 Bp Bo)))))
def zy.l1 (K : Nat) (Bp : Int) (Bn : Int) : Nat → Int → Int → qW (Int × Int × Int)
  | 0, _, _ => .fail
  | k + 1, Bq, Bo =>
    chk (decide (0 ≤ Bn)) <|
    cond (decide (Bo ≥ (zV .i64 (2 : Int) Bn)))
      (
      lt ((zR .i64 Bo (1 : Int))) fun (Br : Int) =>
      lt ((qk (Bq + (1 : Int)))) fun (Bs : Int) =>
      zy.l1 K Bp Bn k Bs Br)
      (
      zy.j2 K Bp Bn Bq Bo)
def zy.m (K : Nat) (Bo : Int) (Bn : Int) : qW (Int × Int × Int) :=
  zy.l1 K Bo Bn K (0 : Int) Bo
def xP.m (K : Nat) (Bq : Int) : qW (Int × Int × Int) :=
  cond (Bq == (258 : Int))
    (
    .ok ((285 : Int), (0 : Int), (0 : Int)))
    (
    (zy.m K (qk (Bq - (3 : Int))) (2 : Int)).bind fun (Bn, Bo, Bp) =>
    .ok ((qk (Bn + (257 : Int))), Bo, Bp))
def xp.m (K : Nat) (Bn : qn) (Bt : qq) (Bq : z4) : qW (Int × (List Int)) :=
  (zh.m K Bn Bn.literals_ Bq.symbol_).bind fun (Br, Bo) =>
  (qm.m K (qn.mk (qG.mk (qJ.mk Br) Bo) Bn.literals_ Bn.distances_) Bq.more_ Bq.bits_).bind fun (Bu, Bs, Bp) =>
  .ok (Bs, Bp)
def xy.m (K : Nat) (Bq : Int) : qW (Int × Int × Int) :=
  (zy.m K (qk (Bq - (1 : Int))) (1 : Int)).bind fun (Bn, Bo, Bp) =>
  .ok (Bn, Bo, Bp)
def zw.l1 (K : Nat) (Bo : qn) (Bt : Int) : Nat → Int → (List Int) → Int → qW (Int × (List Int))
  | 0, _, _, _ => .fail
  | k + 1, Bp, Bn, Bq =>
    cond (decide (Bq ≥ (0 : Int)))
      (
      chk (inb Bt Bo.distances_.codes_.length) <|
      chk (decide (0 ≤ Bq)) <|
      (qm.m K (qn.mk (qG.mk (qJ.mk Bp) Bn) Bo.literals_ Bo.distances_) (wr .u32 (xh .i64 (zR .i64 (rd Bo.distances_.codes_ Bt) Bq) (1 : Int))) (1 : Int)).bind fun (Bv, Bs, Br) =>
      lt ((qk (Bq - (1 : Int)))) fun (Bu : Int) =>
      zw.l1 K Bo Bt k Bs Br Bu)
      (
      .ok (Bp, Bn))
def zw.m (K : Nat) (Bn : qn) (Bq : qq) (Bo : Int) : qW (Int × (List Int)) :=
  chk (inb Bo Bn.distances_.lengths_.length) <|
  lt ((qk ((rd Bn.distances_.lengths_ Bo) - (1 : Int)))) fun (Bp : Int) =>
  zw.l1 K Bn Bo K Bn.Writer_.place_.at_ Bn.Writer_.bytes_ Bp
def xm.m (K : Nat) (Bn : qn) (Bt : qq) (Bs : z4) : qW (Int × (List Int)) :=
  (zw.m K Bn Bn.distances_ Bs.symbol_).bind fun (Bq, Bo) =>
  (qm.m K (qn.mk (qG.mk (qJ.mk Bq) Bo) Bn.literals_ Bn.distances_) Bs.more_ Bs.bits_).bind fun (Bu, Br, Bp) =>
  .ok (Br, Bp)
def qS.j2 (K : Nat) (Bp : qn) (Bq : Int) (Bn : (List Int)) : qW (Int × (List Int)) :=
  (zh.m K (qn.mk (qG.mk (qJ.mk Bq) Bn) Bp.literals_ Bp.distances_) Bp.literals_ (256 : Int)).bind fun (Br, Bo) =>
  .ok (Br, Bo)
def qS.l1 (K : Nat) (Bn : qn) (Bp : List qp) : Nat → Int → (List Int) → Int → qW (Int × (List Int))
  | 0, _, _, _ => .fail
  | k + 1, Br, Bo, Bq =>
    cond (decide (Bq < (Bp.length : Int)))
      (
      chk (inb Bq Bp.length) <|
      cond ((rd Bp Bq).Dist_ == (0 : Int))
        (
        (zh.m K (qn.mk (qG.mk (qJ.mk Br) Bo) Bn.literals_ Bn.distances_) Bn.literals_ (wr .i64 (rd Bp Bq).Lit_)).bind fun (BB, Bu) =>
        qS.l1 K Bn Bp k BB Bu (qk (Bq + (1 : Int))))
        (
        (xP.m K ((rd Bp Bq).Len_)).bind fun (Bs, Bx, By) =>
        (xp.m K (qn.mk (qG.mk (qJ.mk Br) Bo) Bn.literals_ Bn.distances_) Bn.literals_ (z4.mk Bs Bx By)).bind fun (BC, Bv) =>
        (xy.m K ((rd Bp Bq).Dist_)).bind fun (Bt, Bz, BA) =>
        (xm.m K (qn.mk (qG.mk (qJ.mk BC) Bv) Bn.literals_ Bn.distances_) Bn.distances_ (z4.mk Bt Bz BA)).bind fun (BD, Bw) =>
        qS.l1 K Bn Bp k BD Bw (qk (Bq + (1 : Int)))))
      (
      qS.j2 K Bn Br Bo)
def qS.m (K : Nat) (Bn : qn) (Bo : List qp) : qW (Int × (List Int)) :=
  qS.l1 K Bn Bo K Bn.Writer_.place_.at_ Bn.Writer_.bytes_ (0 : Int)
def zt.m (K : Nat) (Bn : qn) : qW (List UInt8) :=
  lt ((Bn.Writer_.bytes_.map ZX)) fun (Bo : List UInt8) =>
  .ok Bo
def xH.m (K : Nat) (l_7 : List qp) : qW ((List UInt8) × Int) :=
  (yi.m K l_7).bind fun Bw =>
  cond (!Bw)
    (
    .ok (([] : List UInt8), (1 : Int)))
    (
    (qN.m K).bind fun (Bn, Bp, Bo, Bq) =>
    (qm.m K (qn.mk (qG.mk (qJ.mk (0 : Int)) ([] : List Int)) (qq.mk Bn Bp) (qq.mk Bo Bq)) (3 : Int) (3 : Int)).bind fun (Bx, Bu, Bs) =>
    (qS.m K (qn.mk (qG.mk (qJ.mk Bu) Bs) (qq.mk Bn Bp) (qq.mk Bo Bq)) l_7).bind fun (Bt, Br) =>
    (zt.m K (qn.mk (qG.mk (qJ.mk Bt) Br) (qq.mk Bn Bp) (qq.mk Bo Bq))).bind fun Bv =>
    .ok (Bv, (0 : Int)))
def yA.m (K : Nat) (Bn : Int) : qW Bool :=
  lt (((decide (Bn < (0 : Int))) || (decide (Bn > (1099511627776 : Int))))) fun (Bo : Bool) =>
  .ok Bo
def zb.l1 (K : Nat) (Bo : List Int) : Nat → Int → qW Int
  | 0, _ => .fail
  | k + 1, Bn =>
    cond (decide (Bn < (Bo.length : Int)))
      (
      chk (inb Bn Bo.length) <|
      (yA.m K (rd Bo Bn)).bind fun Bp =>
      cond Bp
        (
        .ok Bn)
        (
        zb.l1 K Bo k (qk (Bn + (1 : Int)))))
      (
      .ok (-1 : Int))
def zb.m (K : Nat) (Bn : List Int) : qW Int :=
  zb.l1 K Bn K (0 : Int)
def zQ.m (K : Nat) (Bn : List Int) : qW Bool :=
  (zb.m K Bn).bind fun Bo =>
  lt ((decide (Bo ≥ (0 : Int)))) fun (Bp : Bool) =>
  .ok Bp
def ya.m (K : Nat) (Bn : Int) : qW Bool :=
  lt ((Bn != Bn)) fun (Bo : Bool) =>
  .ok Bo
def xx.m (K : Nat) (Bn : Int) (Bo : Int) : qW Int :=
  (ya.m K Bn).bind fun Bq =>
  (ya.m K Bo).bind fun Bp =>
  cond Bq
    (
    cond Bp
      (
      .ok (0 : Int))
      (
      .ok (-1 : Int)))
    (
    cond Bp
      (
      .ok (1 : Int))
      (
      cond (decide (Bn < Bo))
        (
        .ok (-1 : Int))
        (
        cond (decide (Bn > Bo))
          (
          .ok (1 : Int))
          (
          .ok (0 : Int)))))
def xq.m (K : Nat) (Bn : qb) (Bo : qb) : qW Int :=
  (xx.m K Bn.often_ Bo.often_).bind fun Bp =>
  .ok Bp
def qd.j3 (K : Nat) (g1 : (List qb) → Int → qW (List qb)) (g2 : (List qb) → Int → qW (List qb)) (Br : Int) (Bn : (List qb)) (Bo : Int) (Bs : Bool) : qW (List qb) :=
  cond Bs
    (
    chk (inb (qk (Bo - (1 : Int))) Bn.length) <|
    chk (inb Bo Bn.length) <|
    lt (Bn.set (Int.toNat Bo) (qb.mk ((rd Bn (qk (Bo - (1 : Int)))).often_) ((rd Bn (qk (Bo - (1 : Int)))).symbols_))) fun (Bp : (List qb)) =>
    chk (inb (qk (Bo - (1 : Int))) Bp.length) <|
    lt (Bp.set (Int.toNat (qk (Bo - (1 : Int)))) (qb.mk ((rd Bn Bo).often_) ((rd Bn Bo).symbols_))) fun (Bq : (List qb)) =>
    lt ((qk (Bo - (1 : Int)))) fun (Bt : Int) =>
    g2 Bq Bt)
    (
    lt ((qk (Br + (1 : Int)))) fun (Bu : Int) =>
    g1 Bn Bu)
def qd.l2 (K : Nat) (g1 : (List qb) → Int → qW (List qb)) (Bp : Int) (Bq : Int) : Nat → (List qb) → Int → qW (List qb)
  | 0, _, _ => .fail
  | k + 1, Bn, Bo =>
    cond (decide (Bo > Bp))
      (
      chk (inb Bo Bn.length) <|
      chk (inb (qk (Bo - (1 : Int))) Bn.length) <|
      (xq.m K (qb.mk ((rd Bn Bo).often_) ((rd Bn Bo).symbols_)) (qb.mk ((rd Bn (qk (Bo - (1 : Int)))).often_) ((rd Bn (qk (Bo - (1 : Int)))).symbols_))).bind fun Br =>
      qd.j3 K (g1) (qd.l2 K g1 Bp Bq k) Bq Bn Bo (decide (Br < (0 : Int))))
      (
      qd.j3 K (g1) (qd.l2 K g1 Bp Bq k) Bq Bn Bo false)
def qd.l1 (K : Nat) (Bo : Int) (Bp : Int) : Nat → (List qb) → Int → qW (List qb)
  | 0, _, _ => .fail
  | k + 1, Bn, Bq =>
    cond (decide (Bq < Bp))
      (
      qd.l2 K (qd.l1 K Bo Bp k) Bo Bq K Bn Bq)
      (
      .ok Bn)
def qd.m (K : Nat) (Bn : List qb) (Bo : Int) (Bp : Int) : qW (List qb) :=
  lt ((qk (Bo + (1 : Int)))) fun (Bq : Int) =>
  qd.l1 K Bo Bp K Bn Bq
def qw.l1 (K : Nat) (Bq : Int) (Bp : Int) (Br : Int) : Nat → (List qb) → Int → qW (List qb)
  | 0, _, _ => .fail
  | k + 1, Bn, Bo =>
    cond (decide (Bo < Br))
      (
      chk (inb (qk (Bp + Bo)) Bn.length) <|
      chk (inb (qk (Bq + Bo)) Bn.length) <|
      lt (Bn.set (Int.toNat (qk (Bq + Bo))) (qb.mk ((rd Bn (qk (Bp + Bo))).often_) ((rd Bn (qk (Bp + Bo))).symbols_))) fun (Bs : (List qb)) =>
      chk (inb (qk (Bp + Bo)) Bs.length) <|
      lt (Bs.set (Int.toNat (qk (Bp + Bo))) (qb.mk ((rd Bn (qk (Bq + Bo))).often_) ((rd Bn (qk (Bq + Bo))).symbols_))) fun (Bt : (List qb)) =>
      lt ((qk (Bo + (1 : Int)))) fun (Bu : Int) =>
      qw.l1 K Bq Bp Br k Bt Bu)
      (
      .ok Bn)
def qw.m (K : Nat) (Bn : List qb) (Bo : Int) (Bp : Int) (Bq : Int) : qW (List qb) :=
  qw.l1 K Bo Bp Bq K Bn (0 : Int)
def qr.j2 (K : Nat) (Bp : Int) (Bn : (List qb)) (Bq : Int) : qW (List qb) :=
  (qw.m K Bn (qk (Bp - Bq)) Bp Bq).bind fun Bo =>
  .ok Bo
def qr.l1 (K : Nat) (Bo : Int) : Nat → (List qb) → Int → Int → qW (List qb)
  | 0, _, _, _ => .fail
  | k + 1, Bp, Bn, Bq =>
    cond (Bn != Bq)
      (
      cond (decide (Bn > Bq))
        (
        (qw.m K Bp (qk (Bo - Bn)) Bo Bq).bind fun Br =>
        lt ((qk (Bn - Bq))) fun (Bt : Int) =>
        qr.l1 K Bo k Br Bt Bq)
        (
        (qw.m K Bp (qk (Bo - Bn)) (qk ((qk (Bo + Bq)) - Bn)) Bn).bind fun Bs =>
        lt ((qk (Bq - Bn))) fun (Bu : Int) =>
        qr.l1 K Bo k Bs Bn Bu))
      (
      qr.j2 K Bo Bp Bn)
def qr.m (K : Nat) (Bn : List qb) (Bp : Int) (Bo : Int) (Bq : Int) : qW (List qb) :=
  lt ((qk (Bo - Bp))) fun (Br : Int) =>
  lt ((qk (Bq - Bo))) fun (Bs : Int) =>
  qr.l1 K Bo K Bn Br Bs
def qa.l3 (K : Nat) (rc : (List qb) → Int → Int → Int → qW (List qb)) (Bq : Int) : Nat → (List qb) → Int → qW (List qb)
  | 0, _, _ => .fail
  | k + 1, Bn, Bo =>
    cond (decide (Bo < (qk (Bq - (1 : Int)))))
      (
      chk (inb (qk (Bo + (1 : Int))) Bn.length) <|
      chk (inb Bo Bn.length) <|
      lt (Bn.set (Int.toNat Bo) (qb.mk ((rd Bn (qk (Bo + (1 : Int)))).often_) ((rd Bn (qk (Bo + (1 : Int)))).symbols_))) fun (Bp : (List qb)) =>
      chk (inb (qk (Bo + (1 : Int))) Bp.length) <|
      lt (Bp.set (Int.toNat (qk (Bo + (1 : Int)))) (qb.mk ((rd Bn Bo).often_) ((rd Bn Bo).symbols_))) fun (Br : (List qb)) =>
      lt ((qk (Bo + (1 : Int)))) fun (Bs : Int) =>
      qa.l3 K rc Bq k Br Bs)
      (
      .ok Bn)
def qa.j2 (K : Nat) (rc : (List qb) → Int → Int → Int → qW (List qb)) (Bn : List qb) (Bo : Int) (Bp : Int) : qW (List qb) :=
  qa.l3 K rc Bp K Bn Bo
def qa.l1 (K : Nat) (rc : (List qb) → Int → Int → Int → qW (List qb)) (Bn : List qb) (Bo : Int) : Nat → Int → Int → qW (List qb)
  | 0, _, _ => .fail
  | k + 1, Bq, Br =>
    cond (decide (Bq < Br))
      (
      lt ((wr .i64 (zR .u64 (wr .u64 (qk (Bq + Br))) (1 : Int)))) fun (Bp : Int) =>
      chk (inb Bp Bn.length) <|
      chk (inb Bo Bn.length) <|
      (xq.m K (qb.mk ((rd Bn Bp).often_) ((rd Bn Bp).symbols_)) (qb.mk ((rd Bn Bo).often_) ((rd Bn Bo).symbols_))).bind fun Bs =>
      cond (decide (Bs < (0 : Int)))
        (
        lt ((qk (Bp + (1 : Int)))) fun (Bt : Int) =>
        qa.l1 K rc Bn Bo k Bt Br)
        (
        qa.l1 K rc Bn Bo k Bq Bp))
      (
      qa.j2 K rc Bn Bo Bq)
def qa.l7 (K : Nat) (rc : (List qb) → Int → Int → Int → qW (List qb)) (Bq : Int) : Nat → (List qb) → Int → qW (List qb)
  | 0, _, _ => .fail
  | k + 1, Bn, Bo =>
    cond (decide (Bo > Bq))
      (
      chk (inb (qk (Bo - (1 : Int))) Bn.length) <|
      chk (inb Bo Bn.length) <|
      lt (Bn.set (Int.toNat Bo) (qb.mk ((rd Bn (qk (Bo - (1 : Int)))).often_) ((rd Bn (qk (Bo - (1 : Int)))).symbols_))) fun (Bp : (List qb)) =>
      chk (inb (qk (Bo - (1 : Int))) Bp.length) <|
      lt (Bp.set (Int.toNat (qk (Bo - (1 : Int)))) (qb.mk ((rd Bn Bo).often_) ((rd Bn Bo).symbols_))) fun (Br : (List qb)) =>
      lt ((qk (Bo - (1 : Int)))) fun (Bs : Int) =>
      qa.l7 K rc Bq k Br Bs)
      (
      .ok Bn)
def qa.j6 (K : Nat) (rc : (List qb) → Int → Int → Int → qW (List qb)) (Bn : List qb) (Bo : Int) (Bp : Int) : qW (List qb) :=
  qa.l7 K rc Bp K Bn Bo
def qa.l5 (K : Nat) (rc : (List qb) → Int → Int → Int → qW (List qb)) (Bn : List qb) (Bo : Int) : Nat → Int → Int → qW (List qb)
  | 0, _, _ => .fail
  | k + 1, Bq, Br =>
    cond (decide (Bq < Br))
      (
      lt ((wr .i64 (zR .u64 (wr .u64 (qk (Bq + Br))) (1 : Int)))) fun (Bp : Int) =>
      chk (inb Bo Bn.length) <|
      chk (inb Bp Bn.length) <|
      (xq.m K (qb.mk ((rd Bn Bo).often_) ((rd Bn Bo).symbols_)) (qb.mk ((rd Bn Bp).often_) ((rd Bn Bp).symbols_))).bind fun Bs =>
      cond (!(decide (Bs < (0 : Int))))
        (
        lt ((qk (Bp + (1 : Int)))) fun (Bt : Int) =>
        qa.l5 K rc Bn Bo k Bt Br)
        (
        qa.l5 K rc Bn Bo k Bq Bp))
      (
      qa.j6 K rc Bn Bo Bq)
def qa.j13 (K : Nat) (rc : (List qb) → Int → Int → Int → qW (List qb)) (Bq : Int) (Bp : Int) (Bn : Int) (Bo : (List qb)) : qW (List qb) :=
  cond ((decide (Bp < Bn)) && (decide (Bn < Bq)))
    (
    (rc Bo Bp Bn Bq).bind fun Br =>
    .ok Br)
    (
    .ok Bo)
def qa.j12 (K : Nat) (rc : (List qb) → Int → Int → Int → qW (List qb)) (Br : Int) (Bs : Int) (Bo : Int) (Bn : Int) (Bp : Int) (Bq : (List qb)) : qW (List qb) :=
  cond ((decide (Br < Bn)) && (decide (Bn < Bo)))
    (
    (rc Bq Br Bn Bo).bind fun Bt =>
    qa.j13 K rc Bs Bo Bp Bt)
    (
    qa.j13 K rc Bs Bo Bp Bq)
def qa.j11 (K : Nat) (rc : (List qb) → Int → Int → Int → qW (List qb)) (Bp : List qb) (Br : Int) (Bs : Int) (Bt : Int) (Bq : Int) (Bv : Int) (Bn : Int) : qW (List qb) :=
  lt ((qk (Bv - Bn))) fun (Bo : Int) =>
  cond ((decide (Bn < Bs)) && (decide (Bs < Bo)))
    (
    (qr.m K Bp Bn Bs Bo).bind fun Bu =>
    qa.j12 K rc Br Bt Bq Bn Bo Bu)
    (
    qa.j12 K rc Br Bt Bq Bn Bo Bp)
def qa.l10 (K : Nat) (rc : (List qb) → Int → Int → Int → qW (List qb)) (Bn : List qb) (Bs : Int) (Bw : Int) (Bt : Int) (Bq : Int) (Bu : Int) (Br : Int) : Nat → Int → Int → qW (List qb)
  | 0, _, _ => .fail
  | k + 1, Bp, Bx =>
    cond (decide (Bp < Bx))
      (
      lt ((wr .i64 (zR .u64 (wr .u64 (qk (Bp + Bx))) (1 : Int)))) fun (Bo : Int) =>
      chk (inb (qk (Br - Bo)) Bn.length) <|
      chk (inb Bo Bn.length) <|
      (xq.m K (qb.mk ((rd Bn (qk (Br - Bo))).often_) ((rd Bn (qk (Br - Bo))).symbols_)) (qb.mk ((rd Bn Bo).often_) ((rd Bn Bo).symbols_))).bind fun By =>
      cond (!(decide (By < (0 : Int))))
        (
        lt ((qk (Bo + (1 : Int)))) fun (Bv : Int) =>
        qa.l10 K rc Bn Bs Bw Bt Bq Bu Br k Bv Bx)
        (
        qa.l10 K rc Bn Bs Bw Bt Bq Bu Br k Bp Bo))
      (
      qa.j11 K rc Bn Bs Bw Bt Bq Bu Bp)
def qa.j9 (K : Nat) (rc : (List qb) → Int → Int → Int → qW (List qb)) (Bo : List qb) (Br : Int) (Bt : Int) (Bs : Int) (Bq : Int) (Bp : Int) (Bn : Int) (Bu : Int) : qW (List qb) :=
  lt ((qk (Bp - (1 : Int)))) fun (Bv : Int) =>
  qa.l10 K rc Bo Br Bt Bs Bq Bp Bv K Bn Bu
def qa.j8 (K : Nat) (rc : (List qb) → Int → Int → Int → qW (List qb)) (Bq : List qb) (Bo : Int) (Br : Int) (Bp : Int) : qW (List qb) :=
  lt ((wr .i64 (zR .u64 (wr .u64 (qk (Bo + Bp))) (1 : Int)))) fun (Bn : Int) =>
  lt ((qk (Bn + Br))) fun (Bs : Int) =>
  cond (decide (Br > Bn))
    (
    lt ((qk (Bs - Bp))) fun (Bt : Int) =>
    qa.j9 K rc Bq Bo Br Bp Bn Bs Bt Bn)
    (
    qa.j9 K rc Bq Bo Br Bp Bn Bs Bo Br)
def qa.j4 (K : Nat) (rc : (List qb) → Int → Int → Int → qW (List qb)) (Bn : List qb) (Bp : Int) (Bo : Int) (Bq : Int) : qW (List qb) :=
  cond ((qk (Bq - Bo)) == (1 : Int))
    (
    qa.l5 K rc Bn Bo K Bp Bo)
    (
    qa.j8 K rc Bn Bp Bo Bq)
def qa.b (K : Nat) (rc : (List qb) → Int → Int → Int → qW (List qb)) (Bn : List qb) (Bo : Int) (Bp : Int) (Bq : Int) : qW (List qb) :=
  cond ((qk (Bp - Bo)) == (1 : Int))
    (
    qa.l1 K rc Bn Bo K Bp Bq)
    (
    qa.j4 K rc Bn Bo Bp Bq)
def qa.r (K : Nat) : Nat → (List qb) → Int → Int → Int → qW (List qb)
  | 0 => fun _ _ _ _ => .fail
  | d + 1 => qa.b K (qa.r K d)
def qa.m (K : Nat) (Bn : List qb) (Bo : Int) (Bq : Int) (Bp : Int) : qW (List qb) := qa.r K K Bn Bo Bq Bp
def qe.j5 (K : Nat) (g3 : (List qb) → Int → qW (List qb)) (Br : Int) (Bn : Int) (Bq : (List qb)) (Bs : Int) : qW (List qb) :=
  lt ((qk (Bs + Bn))) fun (Bu : Int) =>
  cond (decide (Bu < Br))
    (
    (qa.m K Bq Bs Bu Br).bind fun Bt =>
    lt ((qk (Bn * (2 : Int)))) fun (Bo : Int) =>
    g3 Bt Bo)
    (
    lt ((qk (Bn * (2 : Int)))) fun (Bp : Int) =>
    g3 Bq Bp)
def qe.l4 (K : Nat) (g3 : (List qb) → Int → qW (List qb)) (Bq : Int) (Bn : Int) : Nat → (List qb) → Int → Int → qW (List qb)
  | 0, _, _, _ => .fail
  | k + 1, Bp, Br, Bo =>
    cond (decide (Bo ≤ Bq))
      (
      (qa.m K Bp Br (qk (Br + Bn)) Bo).bind fun Bs =>
      lt ((qk (Bo + (qk ((2 : Int) * Bn))))) fun (Bt : Int) =>
      qe.l4 K g3 Bq Bn k Bs Bo Bt)
      (
      qe.j5 K (g3) Bq Bn Bp Br)
def qe.l3 (K : Nat) (Bp : Int) : Nat → (List qb) → Int → qW (List qb)
  | 0, _, _ => .fail
  | k + 1, Bo, Bn =>
    cond (decide (Bn < Bp))
      (
      lt ((qk ((2 : Int) * Bn))) fun (Bq : Int) =>
      qe.l4 K (qe.l3 K Bp k) Bp Bn K Bo (0 : Int) Bq)
      (
      .ok Bo)
def qe.j2 (K : Nat) (Bn : Int) (Bo : (List qb)) (Bq : Int) : qW (List qb) :=
  (qd.m K Bo Bq Bn).bind fun Bp =>
  qe.l3 K Bn K Bp (20 : Int)
def qe.l1 (K : Nat) (Bp : Int) : Nat → (List qb) → Int → Int → qW (List qb)
  | 0, _, _, _ => .fail
  | k + 1, Bo, Bq, Bn =>
    cond (decide (Bn ≤ Bp))
      (
      (qd.m K Bo Bq Bn).bind fun Br =>
      lt ((qk (Bn + (20 : Int)))) fun (Bs : Int) =>
      qe.l1 K Bp k Br Bn Bs)
      (
      qe.j2 K Bp Bo Bq)
def qe.m (K : Nat) (Bn : List qb) (Bo : Int) : qW (List qb) :=
  qe.l1 K Bo K Bn (0 : Int) (20 : Int)
def qT.m (K : Nat) (Bo : List qb) : qW (List qb) :=
  (qe.m K Bo (Bo.length : Int)).bind fun Bn =>
  .ok Bn
def zS.m (K : Nat) (Bo : Int) : qW Unit :=
  cond (decide (Bo < (0 : Int)))
    (
    .pan (.iface vx (yX ([99, 97, 110, 110, 111, 116, 32, 98, 101, 32, 110, 101, 103, 97, 116, 105, 118, 101] : List UInt8))))
    (
    lt ((qk (Bo - (qk ((0 : Int) - (0 : Int)))))) fun (Bn : Int) =>
    cond (decide (Bn > (0 : Int)))
      (
      chk (decide ((0 : Int) < Bn) && room (Int.toNat Bn) 8) <|
      .ok ())
      (
      .ok ()))
def qH.l3 (K : Nat) (Bn : List (List Int)) : Nat → (List Int) → Int → qW (List Int)
  | 0, _, _ => .fail
  | k + 1, Bo, Bp =>
    cond (decide (Bp < (Bn.length : Int)))
      (
      chk (inb Bp Bn.length) <|
      chk (room (Bo.length + (rd Bn Bp).length) 8) <|
      lt (Bo ++ (rd Bn Bp)) fun (Bq : (List Int)) =>
      qH.l3 K Bn k Bq (qk (Bp + (1 : Int))))
      (
      .ok Bo)
def qH.j2 (K : Nat) (Bn : List (List Int)) (Bo : Int) : qW (List Int) :=
  (zS.m K Bo).bind fun _ =>
  qH.l3 K Bn K ([] : List Int) (0 : Int)
def qH.l1 (K : Nat) (Bn : List (List Int)) : Nat → Int → Int → qW (List Int)
  | 0, _, _ => .fail
  | k + 1, Bo, Bq =>
    cond (decide (Bq < (Bn.length : Int)))
      (
      chk (inb Bq Bn.length) <|
      lt ((qk (Bo + ((rd Bn Bq).length : Int)))) fun (Bp : Int) =>
      cond (decide (Bp < (0 : Int)))
        (
        .pan (.iface vx (yX ([108, 101, 110, 32, 111, 117, 116, 32, 111, 102, 32, 114, 97, 110, 103, 101] : List UInt8))))
        (
        qH.l1 K Bn k Bp (qk (Bq + (1 : Int)))))
      (
      qH.j2 K Bn Bo)
def qH.m (K : Nat) (Bn : List (List Int)) : qW (List Int) :=
  qH.l1 K Bn K (0 : Int) (0 : Int)
def z9.l1 (K : Nat) (Bn : List qb) : Nat → (List qb) → Int → qW (List qb)
  | 0, _, _ => .fail
  | k + 1, Bp, Bo =>
    cond (decide ((qk (Bo + (1 : Int))) < (Bn.length : Int)))
      (
      chk (inb Bo Bn.length) <|
      chk (inb (qk (Bo + (1 : Int))) Bn.length) <|
      (qH.m K ([(rd Bn Bo).symbols_, (rd Bn (qk (Bo + (1 : Int)))).symbols_] : List (List Int))).bind fun Bq =>
      chk (room (Bp.length + ([(qb.mk (qk ((rd Bn Bo).often_ + (rd Bn (qk (Bo + (1 : Int)))).often_)) Bq)] : List qb).length) 32) <|
      lt (Bp ++ ([(qb.mk (qk ((rd Bn Bo).often_ + (rd Bn (qk (Bo + (1 : Int)))).often_)) Bq)] : List qb)) fun (Br : (List qb)) =>
      lt ((qk (Bo + (2 : Int)))) fun (Bs : Int) =>
      z9.l1 K Bn k Br Bs)
      (
      .ok Bp)
def z9.m (K : Nat) (Bn : List qb) : qW (List qb) :=
  z9.l1 K Bn K ([] : List qb) (0 : Int)
def zu.m (K : Nat) (Bo : Int) : qW Unit :=
  cond (decide (Bo < (0 : Int)))
    (
    .pan (.iface vx (yX ([99, 97, 110, 110, 111, 116, 32, 98, 101, 32, 110, 101, 103, 97, 116, 105, 118, 101] : List UInt8))))
    (
    lt ((qk (Bo - (qk ((0 : Int) - (0 : Int)))))) fun (Bn : Int) =>
    cond (decide (Bn > (0 : Int)))
      (
      chk (decide ((0 : Int) < Bn) && room (Int.toNat Bn) 32) <|
      .ok ())
      (
      .ok ()))
def qo.l3 (K : Nat) (Bn : List (List qb)) : Nat → (List qb) → Int → qW (List qb)
  | 0, _, _ => .fail
  | k + 1, Bo, Bp =>
    cond (decide (Bp < (Bn.length : Int)))
      (
      chk (inb Bp Bn.length) <|
      chk (room (Bo.length + (rd Bn Bp).length) 32) <|
      lt (Bo ++ (rd Bn Bp)) fun (Bq : (List qb)) =>
      qo.l3 K Bn k Bq (qk (Bp + (1 : Int))))
      (
      .ok Bo)
def qo.j2 (K : Nat) (Bn : List (List qb)) (Bo : Int) : qW (List qb) :=
  (zu.m K Bo).bind fun _ =>
  qo.l3 K Bn K ([] : List qb) (0 : Int)
def qo.l1 (K : Nat) (Bn : List (List qb)) : Nat → Int → Int → qW (List qb)
  | 0, _, _ => .fail
  | k + 1, Bo, Bq =>
    cond (decide (Bq < (Bn.length : Int)))
      (
      chk (inb Bq Bn.length) <|
      lt ((qk (Bo + ((rd Bn Bq).length : Int)))) fun (Bp : Int) =>
      cond (decide (Bp < (0 : Int)))
        (
        .pan (.iface vx (yX ([108, 101, 110, 32, 111, 117, 116, 32, 111, 102, 32, 114, 97, 110, 103, 101] : List UInt8))))
        (
        qo.l1 K Bn k Bp (qk (Bq + (1 : Int)))))
      (
      qo.j2 K Bn Bo)
def qo.m (K : Nat) (Bn : List (List qb)) : qW (List qb) :=
  qo.l1 K Bn K (0 : Int) (0 : Int)
def xY.m (K : Nat) (Bn : qb) (Bo : qb) : qW Int :=
  (xx.m K Bn.often_ Bo.often_).bind fun Bp =>
  .ok Bp
def qi.j3 (K : Nat) (g1 : (List qb) → Int → qW (List qb)) (g2 : (List qb) → Int → qW (List qb)) (Br : Int) (Bn : (List qb)) (Bo : Int) (Bs : Bool) : qW (List qb) :=
  cond Bs
    (
    chk (inb (qk (Bo - (1 : Int))) Bn.length) <|
    chk (inb Bo Bn.length) <|
    lt (Bn.set (Int.toNat Bo) (qb.mk ((rd Bn (qk (Bo - (1 : Int)))).often_) ((rd Bn (qk (Bo - (1 : Int)))).symbols_))) fun (Bp : (List qb)) =>
    chk (inb (qk (Bo - (1 : Int))) Bp.length) <|
    lt (Bp.set (Int.toNat (qk (Bo - (1 : Int)))) (qb.mk ((rd Bn Bo).often_) ((rd Bn Bo).symbols_))) fun (Bq : (List qb)) =>
    lt ((qk (Bo - (1 : Int)))) fun (Bt : Int) =>
    g2 Bq Bt)
    (
    lt ((qk (Br + (1 : Int)))) fun (Bu : Int) =>
    g1 Bn Bu)
def qi.l2 (K : Nat) (g1 : (List qb) → Int → qW (List qb)) (Bp : Int) (Bq : Int) : Nat → (List qb) → Int → qW (List qb)
  | 0, _, _ => .fail
  | k + 1, Bn, Bo =>
    cond (decide (Bo > Bp))
      (
      chk (inb Bo Bn.length) <|
      chk (inb (qk (Bo - (1 : Int))) Bn.length) <|
      (xY.m K (qb.mk ((rd Bn Bo).often_) ((rd Bn Bo).symbols_)) (qb.mk ((rd Bn (qk (Bo - (1 : Int)))).often_) ((rd Bn (qk (Bo - (1 : Int)))).symbols_))).bind fun Br =>
      qi.j3 K (g1) (qi.l2 K g1 Bp Bq k) Bq Bn Bo (decide (Br < (0 : Int))))
      (
      qi.j3 K (g1) (qi.l2 K g1 Bp Bq k) Bq Bn Bo false)
def qi.l1 (K : Nat) (Bo : Int) (Bp : Int) : Nat → (List qb) → Int → qW (List qb)
  | 0, _, _ => .fail
  | k + 1, Bn, Bq =>
    cond (decide (Bq < Bp))
      (
      qi.l2 K (qi.l1 K Bo Bp k) Bo Bq K Bn Bq)
      (
      .ok Bn)
def qi.m (K : Nat) (Bn : List qb) (Bo : Int) (Bp : Int) : qW (List qb) :=
  lt ((qk (Bo + (1 : Int)))) fun (Bq : Int) =>
  qi.l1 K Bo Bp K Bn Bq
def qI.l1 (K : Nat) (Bq : Int) (Bp : Int) (Br : Int) : Nat → (List qb) → Int → qW (List qb)
  | 0, _, _ => .fail
  | k + 1, Bn, Bo =>
    cond (decide (Bo < Br))
      (
      chk (inb (qk (Bp + Bo)) Bn.length) <|
      chk (inb (qk (Bq + Bo)) Bn.length) <|
      lt (Bn.set (Int.toNat (qk (Bq + Bo))) (qb.mk ((rd Bn (qk (Bp + Bo))).often_) ((rd Bn (qk (Bp + Bo))).symbols_))) fun (Bs : (List qb)) =>
      chk (inb (qk (Bp + Bo)) Bs.length) <|
      lt (Bs.set (Int.toNat (qk (Bp + Bo))) (qb.mk ((rd Bn (qk (Bq + Bo))).often_) ((rd Bn (qk (Bq + Bo))).symbols_))) fun (Bt : (List qb)) =>
      lt ((qk (Bo + (1 : Int)))) fun (Bu : Int) =>
      qI.l1 K Bq Bp Br k Bt Bu)
      (
      .ok Bn)
def qI.m (K : Nat) (Bn : List qb) (Bo : Int) (Bp : Int) (Bq : Int) : qW (List qb) :=
  qI.l1 K Bo Bp Bq K Bn (0 : Int)
def qz.j2 (K : Nat) (Bp : Int) (Bn : (List qb)) (Bq : Int) : qW (List qb) :=
  (qI.m K Bn (qk (Bp - Bq)) Bp Bq).bind fun Bo =>
  .ok Bo
def qz.l1 (K : Nat) (Bo : Int) : Nat → (List qb) → Int → Int → qW (List qb)
  | 0, _, _, _ => .fail
  | k + 1, Bp, Bn, Bq =>
    cond (Bn != Bq)
      (
      cond (decide (Bn > Bq))
        (
        (qI.m K Bp (qk (Bo - Bn)) Bo Bq).bind fun Br =>
        lt ((qk (Bn - Bq))) fun (Bt : Int) =>
        qz.l1 K Bo k Br Bt Bq)
        (
        (qI.m K Bp (qk (Bo - Bn)) (qk ((qk (Bo + Bq)) - Bn)) Bn).bind fun Bs =>
        lt ((qk (Bq - Bn))) fun (Bu : Int) =>
        qz.l1 K Bo k Bs Bn Bu))
      (
      qz.j2 K Bo Bp Bn)
def qz.m (K : Nat) (Bn : List qb) (Bp : Int) (Bo : Int) (Bq : Int) : qW (List qb) :=
  lt ((qk (Bo - Bp))) fun (Br : Int) =>
  lt ((qk (Bq - Bo))) fun (Bs : Int) =>
  qz.l1 K Bo K Bn Br Bs
def qc.l3 (K : Nat) (rc : (List qb) → Int → Int → Int → qW (List qb)) (Bq : Int) : Nat → (List qb) → Int → qW (List qb)
  | 0, _, _ => .fail
  | k + 1, Bn, Bo =>
    cond (decide (Bo < (qk (Bq - (1 : Int)))))
      (
      chk (inb (qk (Bo + (1 : Int))) Bn.length) <|
      chk (inb Bo Bn.length) <|
      lt (Bn.set (Int.toNat Bo) (qb.mk ((rd Bn (qk (Bo + (1 : Int)))).often_) ((rd Bn (qk (Bo + (1 : Int)))).symbols_))) fun (Bp : (List qb)) =>
      chk (inb (qk (Bo + (1 : Int))) Bp.length) <|
      lt (Bp.set (Int.toNat (qk (Bo + (1 : Int)))) (qb.mk ((rd Bn Bo).often_) ((rd Bn Bo).symbols_))) fun (Br : (List qb)) =>
      lt ((qk (Bo + (1 : Int)))) fun (Bs : Int) =>
      qc.l3 K rc Bq k Br Bs)
      (
      .ok Bn)
def qc.j2 (K : Nat) (rc : (List qb) → Int → Int → Int → qW (List qb)) (Bn : List qb) (Bo : Int) (Bp : Int) : qW (List qb) :=
  qc.l3 K rc Bp K Bn Bo
def qc.l1 (K : Nat) (rc : (List qb) → Int → Int → Int → qW (List qb)) (Bn : List qb) (Bo : Int) : Nat → Int → Int → qW (List qb)
  | 0, _, _ => .fail
  | k + 1, Bq, Br =>
    cond (decide (Bq < Br))
      (
      lt ((wr .i64 (zR .u64 (wr .u64 (qk (Bq + Br))) (1 : Int)))) fun (Bp : Int) =>
      chk (inb Bp Bn.length) <|
      chk (inb Bo Bn.length) <|
      (xY.m K (qb.mk ((rd Bn Bp).often_) ((rd Bn Bp).symbols_)) (qb.mk ((rd Bn Bo).often_) ((rd Bn Bo).symbols_))).bind fun Bs =>
      cond (decide (Bs < (0 : Int)))
        (
        lt ((qk (Bp + (1 : Int)))) fun (Bt : Int) =>
        qc.l1 K rc Bn Bo k Bt Br)
        (
        qc.l1 K rc Bn Bo k Bq Bp))
      (
      qc.j2 K rc Bn Bo Bq)
def qc.l7 (K : Nat) (rc : (List qb) → Int → Int → Int → qW (List qb)) (Bq : Int) : Nat → (List qb) → Int → qW (List qb)
  | 0, _, _ => .fail
  | k + 1, Bn, Bo =>
    cond (decide (Bo > Bq))
      (
      chk (inb (qk (Bo - (1 : Int))) Bn.length) <|
      chk (inb Bo Bn.length) <|
      lt (Bn.set (Int.toNat Bo) (qb.mk ((rd Bn (qk (Bo - (1 : Int)))).often_) ((rd Bn (qk (Bo - (1 : Int)))).symbols_))) fun (Bp : (List qb)) =>
      chk (inb (qk (Bo - (1 : Int))) Bp.length) <|
      lt (Bp.set (Int.toNat (qk (Bo - (1 : Int)))) (qb.mk ((rd Bn Bo).often_) ((rd Bn Bo).symbols_))) fun (Br : (List qb)) =>
      lt ((qk (Bo - (1 : Int)))) fun (Bs : Int) =>
      qc.l7 K rc Bq k Br Bs)
      (
      .ok Bn)
def qc.j6 (K : Nat) (rc : (List qb) → Int → Int → Int → qW (List qb)) (Bn : List qb) (Bo : Int) (Bp : Int) : qW (List qb) :=
  qc.l7 K rc Bp K Bn Bo
def qc.l5 (K : Nat) (rc : (List qb) → Int → Int → Int → qW (List qb)) (Bn : List qb) (Bo : Int) : Nat → Int → Int → qW (List qb)
  | 0, _, _ => .fail
  | k + 1, Bq, Br =>
    cond (decide (Bq < Br))
      (
      lt ((wr .i64 (zR .u64 (wr .u64 (qk (Bq + Br))) (1 : Int)))) fun (Bp : Int) =>
      chk (inb Bo Bn.length) <|
      chk (inb Bp Bn.length) <|
      (xY.m K (qb.mk ((rd Bn Bo).often_) ((rd Bn Bo).symbols_)) (qb.mk ((rd Bn Bp).often_) ((rd Bn Bp).symbols_))).bind fun Bs =>
      cond (!(decide (Bs < (0 : Int))))
        (
        lt ((qk (Bp + (1 : Int)))) fun (Bt : Int) =>
        qc.l5 K rc Bn Bo k Bt Br)
        (
        qc.l5 K rc Bn Bo k Bq Bp))
      (
      qc.j6 K rc Bn Bo Bq)
def qc.j13 (K : Nat) (rc : (List qb) → Int → Int → Int → qW (List qb)) (Bq : Int) (Bp : Int) (Bn : Int) (Bo : (List qb)) : qW (List qb) :=
  cond ((decide (Bp < Bn)) && (decide (Bn < Bq)))
    (
    (rc Bo Bp Bn Bq).bind fun Br =>
    .ok Br)
    (
    .ok Bo)
def qc.j12 (K : Nat) (rc : (List qb) → Int → Int → Int → qW (List qb)) (Br : Int) (Bs : Int) (Bo : Int) (Bn : Int) (Bp : Int) (Bq : (List qb)) : qW (List qb) :=
  cond ((decide (Br < Bn)) && (decide (Bn < Bo)))
    (
    (rc Bq Br Bn Bo).bind fun Bt =>
    qc.j13 K rc Bs Bo Bp Bt)
    (
    qc.j13 K rc Bs Bo Bp Bq)
def qc.j11 (K : Nat) (rc : (List qb) → Int → Int → Int → qW (List qb)) (Bp : List qb) (Br : Int) (Bs : Int) (Bt : Int) (Bq : Int) (Bv : Int) (Bn : Int) : qW (List qb) :=
  lt ((qk (Bv - Bn))) fun (Bo : Int) =>
  cond ((decide (Bn < Bs)) && (decide (Bs < Bo)))
    (
    (qz.m K Bp Bn Bs Bo).bind fun Bu =>
    qc.j12 K rc Br Bt Bq Bn Bo Bu)
    (
    qc.j12 K rc Br Bt Bq Bn Bo Bp)
def qc.l10 (K : Nat) (rc : (List qb) → Int → Int → Int → qW (List qb)) (Bn : List qb) (Bs : Int) (Bw : Int) (Bt : Int) (Bq : Int) (Bu : Int) (Br : Int) : Nat → Int → Int → qW (List qb)
  | 0, _, _ => .fail
  | k + 1, Bp, Bx =>
    cond (decide (Bp < Bx))
      (
      lt ((wr .i64 (zR .u64 (wr .u64 (qk (Bp + Bx))) (1 : Int)))) fun (Bo : Int) =>
      chk (inb (qk (Br - Bo)) Bn.length) <|
      chk (inb Bo Bn.length) <|
      (xY.m K (qb.mk ((rd Bn (qk (Br - Bo))).often_) ((rd Bn (qk (Br - Bo))).symbols_)) (qb.mk ((rd Bn Bo).often_) ((rd Bn Bo).symbols_))).bind fun By =>
      cond (!(decide (By < (0 : Int))))
        (
        lt ((qk (Bo + (1 : Int)))) fun (Bv : Int) =>
        qc.l10 K rc Bn Bs Bw Bt Bq Bu Br k Bv Bx)
        (
        qc.l10 K rc Bn Bs Bw Bt Bq Bu Br k Bp Bo))
      (
      qc.j11 K rc Bn Bs Bw Bt Bq Bu Bp)
def qc.j9 (K : Nat) (rc : (List qb) → Int → Int → Int → qW (List qb)) (Bo : List qb) (Br : Int) (Bt : Int) (Bs : Int) (Bq : Int) (Bp : Int) (Bn : Int) (Bu : Int) : qW (List qb) :=
  lt ((qk (Bp - (1 : Int)))) fun (Bv : Int) =>
  qc.l10 K rc Bo Br Bt Bs Bq Bp Bv K Bn Bu
def qc.j8 (K : Nat) (rc : (List qb) → Int → Int → Int → qW (List qb)) (Bq : List qb) (Bo : Int) (Br : Int) (Bp : Int) : qW (List qb) :=
  lt ((wr .i64 (zR .u64 (wr .u64 (qk (Bo + Bp))) (1 : Int)))) fun (Bn : Int) =>
  lt ((qk (Bn + Br))) fun (Bs : Int) =>
  cond (decide (Br > Bn))
    (
    lt ((qk (Bs - Bp))) fun (Bt : Int) =>
    qc.j9 K rc Bq Bo Br Bp Bn Bs Bt Bn)
    (
    qc.j9 K rc Bq Bo Br Bp Bn Bs Bo Br)
def qc.j4 (K : Nat) (rc : (List qb) → Int → Int → Int → qW (List qb)) (Bn : List qb) (Bp : Int) (Bo : Int) (Bq : Int) : qW (List qb) :=
  cond ((qk (Bq - Bo)) == (1 : Int))
    (
    qc.l5 K rc Bn Bo K Bp Bo)
    (
    qc.j8 K rc Bn Bp Bo Bq)
def qc.b (K : Nat) (rc : (List qb) → Int → Int → Int → qW (List qb)) (Bn : List qb) (Bo : Int) (Bp : Int) (Bq : Int) : qW (List qb) :=
  cond ((qk (Bp - Bo)) == (1 : Int))
    (
    qc.l1 K rc Bn Bo K Bp Bq)
    (
    qc.j4 K rc Bn Bo Bp Bq)
def qc.r (K : Nat) : Nat → (List qb) → Int → Int → Int → qW (List qb)
  | 0 => fun _ _ _ _ => .fail
  | d + 1 => qc.b K (qc.r K d)
def qc.m (K : Nat) (Bn : List qb) (Bo : Int) (Bq : Int) (Bp : Int) : qW (List qb) := qc.r K K Bn Bo Bq Bp
def qj.j5 (K : Nat) (g3 : (List qb) → Int → qW (List qb)) (Br : Int) (Bn : Int) (Bq : (List qb)) (Bs : Int) : qW (List qb) :=
  lt ((qk (Bs + Bn))) fun (Bu : Int) =>
  cond (decide (Bu < Br))
    (
    (qc.m K Bq Bs Bu Br).bind fun Bt =>
    lt ((qk (Bn * (2 : Int)))) fun (Bo : Int) =>
    g3 Bt Bo)
    (
    lt ((qk (Bn * (2 : Int)))) fun (Bp : Int) =>
    g3 Bq Bp)
def qj.l4 (K : Nat) (g3 : (List qb) → Int → qW (List qb)) (Bq : Int) (Bn : Int) : Nat → (List qb) → Int → Int → qW (List qb)
  | 0, _, _, _ => .fail
  | k + 1, Bp, Br, Bo =>
    cond (decide (Bo ≤ Bq))
      (
      (qc.m K Bp Br (qk (Br + Bn)) Bo).bind fun Bs =>
      lt ((qk (Bo + (qk ((2 : Int) * Bn))))) fun (Bt : Int) =>
      qj.l4 K g3 Bq Bn k Bs Bo Bt)
      (
      qj.j5 K (g3) Bq Bn Bp Br)
def qj.l3 (K : Nat) (Bp : Int) : Nat → (List qb) → Int → qW (List qb)
  | 0, _, _ => .fail
  | k + 1, Bo, Bn =>
    cond (decide (Bn < Bp))
      (
      lt ((qk ((2 : Int) * Bn))) fun (Bq : Int) =>
      qj.l4 K (qj.l3 K Bp k) Bp Bn K Bo (0 : Int) Bq)
      (
      .ok Bo)
def qj.j2 (K : Nat) (Bn : Int) (Bo : (List qb)) (Bq : Int) : qW (List qb) :=
  (qi.m K Bo Bq Bn).bind fun Bp =>
  qj.l3 K Bn K Bp (20 : Int)
def qj.l1 (K : Nat) (Bp : Int) : Nat → (List qb) → Int → Int → qW (List qb)
  | 0, _, _, _ => .fail
  | k + 1, Bo, Bq, Bn =>
    cond (decide (Bn ≤ Bp))
      (
      (qi.m K Bo Bq Bn).bind fun Br =>
      lt ((qk (Bn + (20 : Int)))) fun (Bs : Int) =>
      qj.l1 K Bp k Br Bn Bs)
      (
      qj.j2 K Bp Bo Bq)
def qj.m (K : Nat) (Bn : List qb) (Bo : Int) : qW (List qb) :=
  qj.l1 K Bo K Bn (0 : Int) (20 : Int)
def zn.m (K : Nat) (Bo : List qb) : qW (List qb) :=
  (qj.m K Bo (Bo.length : Int)).bind fun Bn =>
  .ok Bn
def xR.m (K : Nat) (Bn : List qb) (Bo : List qb) : qW (List qb) :=
  (qo.m K ([Bn, Bo] : List (List qb))).bind fun Bp =>
  (zn.m K Bp).bind fun Bq =>
  .ok Bq
def qt.l8 (K : Nat) (g7 : (List Int) → Int → qW ((List Int) × Int)) (Bo : (List qb)) (Bp : Int) : Nat → (List Int) → Int → qW ((List Int) × Int)
  | 0, _, _ => .fail
  | k + 1, Bn, Bq =>
    cond (decide (Bq < (((rd Bo Bp).symbols_).length : Int)))
      (
      chk (inb Bq ((rd Bo Bp).symbols_).length) <|
      lt ((rd ((rd Bo Bp).symbols_) Bq)) fun (Br : Int) =>
      chk (inb Br Bn.length) <|
      lt (Bn.set (Int.toNat Br) (qk ((rd Bn Br) + (1 : Int)))) fun (Bs : (List Int)) =>
      qt.l8 K g7 Bo Bp k Bs (qk (Bq + (1 : Int))))
      (
      g7 Bn (qk (Bp + (1 : Int))))
def qt.l7 (K : Nat) (Bn : (List qb)) : Nat → (List Int) → Int → qW ((List Int) × Int)
  | 0, _, _ => .fail
  | k + 1, Bo, Bp =>
    cond (decide (Bp < (Bn.length : Int)))
      (
      chk (inb Bp Bn.length) <|
      qt.l8 K (qt.l7 K Bn k) Bn Bp K Bo (0 : Int))
      (
      .ok (Bo, (0 : Int)))
def qt.j6 (K : Nat) (Bo : (List Int)) (Bp : (List qb)) (Bn : (List qb)) : qW ((List Int) × Int) :=
  chk (subok (0 : Int) (qk ((qk ((2 : Int) * (Bp.length : Int))) - (2 : Int))) Bn.length) <|
  lt (sub Bn (0 : Int) (qk ((qk ((2 : Int) * (Bp.length : Int))) - (2 : Int)))) fun (Bq : (List qb)) =>
  qt.l7 K Bq K Bo (0 : Int)
def qt.l5 (K : Nat) (Bn : Int) (Bo : (List Int)) (Bq : (List qb)) : Nat → (List qb) → Int → qW ((List Int) × Int)
  | 0, _, _ => .fail
  | k + 1, Bp, Br =>
    cond (decide (Br < (qk (Bn - (1 : Int)))))
      (
      (z9.m K Bp).bind fun Bs =>
      (xR.m K Bq Bs).bind fun Bt =>
      qt.l5 K Bn Bo Bq k Bt (qk (Br + (1 : Int))))
      (
      qt.j6 K Bo Bq Bp)
def qt.j4 (K : Nat) (Bp : Int) (Bn : (List qb)) (Bo : (List Int)) : qW ((List Int) × Int) :=
  cond (decide ((Bn.length : Int) < (2 : Int)))
    (
    .ok (Bo, (0 : Int)))
    (
    (qT.m K Bn).bind fun Bq =>
    qt.l5 K Bp Bo Bq K Bq (0 : Int))
def qt.j3 (K : Nat) (Bp : List Int) (Bo : Int) (Bn : (List qb)) : qW ((List Int) × Int) :=
  chk (decide (0 ≤ Bo)) <|
  cond (decide ((Bn.length : Int) > (zV .i64 (1 : Int) Bo)))
    (
    .ok (([] : List Int), (1 : Int)))
    (
    chk (decide (0 ≤ (Bp.length : Int)) && room (Int.toNat (Bp.length : Int)) 8) <|
    lt (List.replicate (Int.toNat (Bp.length : Int)) (0 : Int)) fun (Bq : (List Int)) =>
    cond ((Bn.length : Int) == (1 : Int))
      (
      chk (inb (0 : Int) Bn.length) <|
      chk (inb (0 : Int) ((rd Bn (0 : Int)).symbols_).length) <|
      chk (inb (rd ((rd Bn (0 : Int)).symbols_) (0 : Int)) Bq.length) <|
      lt (Bq.set (Int.toNat (rd ((rd Bn (0 : Int)).symbols_) (0 : Int))) (1 : Int)) fun (Br : (List Int)) =>
      qt.j4 K Bo Bn Br)
      (
      qt.j4 K Bo Bn Bq))
def qt.l2 (K : Nat) (Bn : List Int) (Bp : Int) : Nat → (List qb) → Int → qW ((List Int) × Int)
  | 0, _, _ => .fail
  | k + 1, Bo, Bq =>
    cond (decide (Bq < (Bn.length : Int)))
      (
      chk (inb Bq Bn.length) <|
      lt ((rd Bn Bq)) fun (Br : Int) =>
      cond (decide (Br > (0 : Int)))
        (
        chk (room (Bo.length + ([(qb.mk Br ([Bq] : List Int))] : List qb).length) 32) <|
        lt (Bo ++ ([(qb.mk Br ([Bq] : List Int))] : List qb)) fun (Bs : (List qb)) =>
        qt.l2 K Bn Bp k Bs (qk (Bq + (1 : Int))))
        (
        qt.l2 K Bn Bp k Bo (qk (Bq + (1 : Int)))))
      (
      qt.j3 K Bn Bp Bo)
def qt.j1 (K : Nat) (Bn : List Int) (Bo : Int) (Bp : Bool) : qW ((List Int) × Int) :=
  cond Bp
    (
    .ok (([] : List Int), (1 : Int)))
    (
    qt.l2 K Bn Bo K ([] : List qb) (0 : Int))
def qt.m (K : Nat) (Bn : List Int) (Bo : Int) : qW ((List Int) × Int) :=
  cond (((decide (Bo < (1 : Int))) || (decide (Bo > (15 : Int)))) || (decide ((Bn.length : Int) > (320 : Int))))
    (
    qt.j1 K Bn Bo true)
    (
    (zQ.m K Bn).bind fun Bp =>
    qt.j1 K Bn Bo Bp)
def qL.j4 (K : Nat)  (Bn : (List Int)) : qW ((List Int) × (List Int)) :=
  (qt.m K Bn (15 : Int)).bind fun (Bo, Bp) =>
  .ok (Bo, Bn)
def qL.l3 (K : Nat)  : Nat → (List Int) → Int → Int → qW ((List Int) × (List Int))
  | 0, _, _, _ => .fail
  | k + 1, Bn, Bp, Bo =>
    cond (decide (Bp < (2 : Int)))
      (
      chk (inb Bo Bn.length) <|
      cond ((rd Bn Bo) == (0 : Int))
        (
        lt (Bn.set (Int.toNat Bo) (qk ((rd Bn Bo) + (1 : Int)))) fun (Bq : (List Int)) =>
        lt ((qk (Bp + (1 : Int)))) fun (Br : Int) =>
        lt ((qk (Bo + (1 : Int)))) fun (Bs : Int) =>
        qL.l3 K k Bq Br Bs)
        (
        lt ((qk (Bo + (1 : Int)))) fun (Bt : Int) =>
        qL.l3 K k Bn Bp Bt))
      (
      qL.j4 K Bn)
def qL.j2 (K : Nat) (Bn : List Int) (Bo : Int) : qW ((List Int) × (List Int)) :=
  qL.l3 K K Bn Bo (0 : Int)
def qL.l1 (K : Nat) (Bn : List Int) : Nat → Int → Int → qW ((List Int) × (List Int))
  | 0, _, _ => .fail
  | k + 1, Bp, Bo =>
    cond (decide (Bo < (Bn.length : Int)))
      (
      chk (inb Bo Bn.length) <|
      lt ((rd Bn Bo)) fun (Bq : Int) =>
      lt ((qk (Bp + (if (1 : Int) < Bq then (1 : Int) else Bq)))) fun (Br : Int) =>
      qL.l1 K Bn k Br (qk (Bo + (1 : Int))))
      (
      qL.j2 K Bn Bp)
def qL.m (K : Nat) (Bn : List Int) : qW ((List Int) × (List Int)) :=
  qL.l1 K Bn K (0 : Int) (0 : Int)
def qD.j4 (K : Nat) (g1 : (List ql) → Int → qW (List ql)) (Bp : List Int) (Bn : (List ql)) (Bq : Int) (Bo : Int) : qW (List ql) :=
  chk (inb Bq Bp.length) <|
  lt ((((rd Bp Bq) == (0 : Int)) && (decide (Bo ≥ (11 : Int))))) fun (Bx : Bool) =>
  cond Bx
    (
    lt ((if (138 : Int) < Bo then (138 : Int) else Bo)) fun (Br : Int) =>
    chk (room (Bn.length + ([(ql.mk (18 : Int) (qk (Br - (11 : Int))) (7 : Int))] : List ql).length) 24) <|
    lt (Bn ++ ([(ql.mk (18 : Int) (qk (Br - (11 : Int))) (7 : Int))] : List ql)) fun (Bt : (List ql)) =>
    lt ((qk (Bq + Br))) fun (By : Int) =>
    g1 Bt By)
    (
    lt ((((rd Bp Bq) == (0 : Int)) && (decide (Bo ≥ (3 : Int))))) fun (Bz : Bool) =>
    cond Bz
      (
      chk (room (Bn.length + ([(ql.mk (17 : Int) (qk (Bo - (3 : Int))) (3 : Int))] : List ql).length) 24) <|
      lt (Bn ++ ([(ql.mk (17 : Int) (qk (Bo - (3 : Int))) (3 : Int))] : List ql)) fun (Bu : (List ql)) =>
      lt ((qk (Bq + Bo))) fun (BA : Int) =>
      g1 Bu BA)
      (
      lt ((decide (Bo ≥ (4 : Int)))) fun (BB : Bool) =>
      cond BB
        (
        lt ((if (7 : Int) < Bo then (7 : Int) else Bo)) fun (Bs : Int) =>
        chk (room (Bn.length + ([(ql.mk (rd Bp Bq) (0 : Int) (0 : Int)), (ql.mk (16 : Int) (qk (Bs - (4 : Int))) (2 : Int))] : List ql).length) 24) <|
        lt (Bn ++ ([(ql.mk (rd Bp Bq) (0 : Int) (0 : Int)), (ql.mk (16 : Int) (qk (Bs - (4 : Int))) (2 : Int))] : List ql)) fun (Bv : (List ql)) =>
        lt ((qk (Bq + Bs))) fun (BC : Int) =>
        g1 Bv BC)
        (
        chk (room (Bn.length + ([(ql.mk (rd Bp Bq) (0 : Int) (0 : Int))] : List ql).length) 24) <|
        lt (Bn ++ ([(ql.mk (rd Bp Bq) (0 : Int) (0 : Int))] : List ql)) fun (Bw : (List ql)) =>
        lt ((qk (Bq + (1 : Int)))) fun (BD : Int) =>
        g1 Bw BD)))
def qD.j3 (K : Nat) (g1 : (List ql) → Int → qW (List ql)) (g2 : Int → qW (List ql)) (Bo : List Int) (Bp : (List ql)) (Br : Int) (Bn : Int) (Bs : Bool) : qW (List ql) :=
  cond Bs
    (
    lt ((qk (Bn + (1 : Int)))) fun (Bq : Int) =>
    g2 Bq)
    (
    qD.j4 K (g1) Bo Bp Br Bn)
def qD.l2 (K : Nat) (g1 : (List ql) → Int → qW (List ql)) (Bn : List Int) (Bp : (List ql)) (Bo : Int) : Nat → Int → qW (List ql)
  | 0, _ => .fail
  | k + 1, Bq =>
    cond (decide ((qk (Bo + Bq)) < (Bn.length : Int)))
      (
      chk (inb (qk (Bo + Bq)) Bn.length) <|
      chk (inb Bo Bn.length) <|
      qD.j3 K (g1) (qD.l2 K g1 Bn Bp Bo k) Bn Bp Bo Bq ((rd Bn (qk (Bo + Bq))) == (rd Bn Bo)))
      (
      qD.j3 K (g1) (qD.l2 K g1 Bn Bp Bo k) Bn Bp Bo Bq false)
def qD.l1 (K : Nat) (Bn : List Int) : Nat → (List ql) → Int → qW (List ql)
  | 0, _, _ => .fail
  | k + 1, Bo, Bp =>
    cond (decide (Bp < (Bn.length : Int)))
      (
      qD.l2 K (qD.l1 K Bn k) Bn Bo Bp K (1 : Int))
      (
      .ok Bo)
def qD.m (K : Nat) (Bn : List Int) : qW (List ql) :=
  qD.l1 K Bn K ([] : List ql) (0 : Int)
def zl.l1 (K : Nat) (Bo : qn) (Bp : qq) (Bt : Int) : Nat → Int → (List Int) → Int → qW (Int × (List Int))
  | 0, _, _, _ => .fail
  | k + 1, Bq, Bn, Br =>
    cond (decide (Br ≥ (0 : Int)))
      (
      chk (inb Bt Bp.codes_.length) <|
      chk (decide (0 ≤ Br)) <|
      (qm.m K (qn.mk (qG.mk (qJ.mk Bq) Bn) Bo.literals_ Bo.distances_) (wr .u32 (xh .i64 (zR .i64 (rd Bp.codes_ Bt) Br) (1 : Int))) (1 : Int)).bind fun (Bw, Bu, Bs) =>
      lt ((qk (Br - (1 : Int)))) fun (Bv : Int) =>
      zl.l1 K Bo Bp Bt k Bu Bs Bv)
      (
      .ok (Bq, Bn))
def zl.m (K : Nat) (Bn : qn) (Bo : qq) (Bp : Int) : qW (Int × (List Int)) :=
  chk (inb Bp Bo.lengths_.length) <|
  lt ((qk ((rd Bo.lengths_ Bp) - (1 : Int)))) fun (Bq : Int) =>
  zl.l1 K Bn Bo Bp K Bn.Writer_.place_.at_ Bn.Writer_.bytes_ Bq
def qh.j12 (K : Nat) (Bv : List qp) (Bt : (List Int)) (Bn : (List Int)) (Bu : (List Int)) (Bo : (List Int)) (Br : Int) (Bp : (List Int)) : qW ((List UInt8) × Int) :=
  (qS.m K (qn.mk (qG.mk (qJ.mk Br) Bp) (qq.mk Bt Bn) (qq.mk Bu Bo)) Bv).bind fun (Bs, Bq) =>
  (zt.m K (qn.mk (qG.mk (qJ.mk Bs) Bq) (qq.mk Bt Bn) (qq.mk Bu Bo))).bind fun Bw =>
  .ok (Bw, (0 : Int))
def qh.l11 (K : Nat) (By : List qp) (Bt : (List Int)) (Bn : (List Int)) (Bu : (List Int)) (Bo : (List Int)) (Bp : (List ql)) (BB : (List Int)) (Bq : (List Int)) : Nat → Int → (List Int) → Int → qW ((List UInt8) × Int)
  | 0, _, _, _ => .fail
  | k + 1, Bv, Br, Bs =>
    cond (decide (Bs < (Bp.length : Int)))
      (
      chk (inb Bs Bp.length) <|
      (zl.m K (qn.mk (qG.mk (qJ.mk Bv) Br) (qq.mk Bt Bn) (qq.mk Bu Bo)) (qq.mk BB Bq) ((rd Bp Bs).symbol_)).bind fun (Bz, Bw) =>
      (qm.m K (qn.mk (qG.mk (qJ.mk Bz) Bw) (qq.mk Bt Bn) (qq.mk Bu Bo)) (wr .u32 (rd Bp Bs).more_) ((rd Bp Bs).bits_)).bind fun (BC, BA, Bx) =>
      qh.l11 K By Bt Bn Bu Bo Bp BB Bq k BA Bx (qk (Bs + (1 : Int))))
      (
      qh.j12 K By Bt Bn Bu Bo Bv Br)
def qh.j10 (K : Nat) (Bs : List qp) (Bt : (List Int)) (Bn : (List Int)) (Bu : (List Int)) (Bo : (List Int)) (Bv : (List ql)) (Bw : (List Int)) (Bp : (List Int)) (Br : Int) (Bq : (List Int)) : qW ((List UInt8) × Int) :=
  qh.l11 K Bs Bt Bn Bu Bo Bv Bw Bp K Br Bq (0 : Int)
def qh.l9 (K : Nat) (Bv : List qp) (Bw : (List Int)) (Bn : (List Int)) (Bx : (List Int)) (Bo : (List Int)) (Bz : (List ql)) (Br : (List Int)) (Bp : (List Int)) : Nat → Int → (List Int) → Int → qW ((List UInt8) × Int)
  | 0, _, _, _ => .fail
  | k + 1, Bs, Bq, Bt =>
    cond (decide (Bt < (19 : Int)))
      (
      chk (inb Bt 19) <|
      lt ((rd tab_deflate_order Bt)) fun (BA : Int) =>
      chk (inb BA Br.length) <|
      (qm.m K (qn.mk (qG.mk (qJ.mk Bs) Bq) (qq.mk Bw Bn) (qq.mk Bx Bo)) (wr .u32 (rd Br BA)) (3 : Int)).bind fun (BB, By, Bu) =>
      qh.l9 K Bv Bw Bn Bx Bo Bz Br Bp k By Bu (qk (Bt + (1 : Int))))
      (
      qh.j10 K Bv Bw Bn Bx Bo Bz Br Bp Bs Bq)
def qh.j8 (K : Nat) (BC : List qp) (Bp : (List Int)) (Bn : (List Int)) (Bq : (List Int)) (Bo : (List Int)) (BD : (List ql)) (Br : (List Int)) : qW ((List UInt8) × Int) :=
  (qt.m K Br (7 : Int)).bind fun (BB, BE) =>
  (xo.m K BB).bind fun Bs =>
  (qm.m K (qn.mk (qG.mk (qJ.mk (0 : Int)) ([] : List Int)) (qq.mk Bp Bn) (qq.mk Bq Bo)) (5 : Int) (3 : Int)).bind fun (BF, Bx, Bt) =>
  (qm.m K (qn.mk (qG.mk (qJ.mk Bx) Bt) (qq.mk Bp Bn) (qq.mk Bq Bo)) (29 : Int) (5 : Int)).bind fun (BG, By, Bu) =>
  (qm.m K (qn.mk (qG.mk (qJ.mk By) Bu) (qq.mk Bp Bn) (qq.mk Bq Bo)) (29 : Int) (5 : Int)).bind fun (BH, Bz, Bv) =>
  (qm.m K (qn.mk (qG.mk (qJ.mk Bz) Bv) (qq.mk Bp Bn) (qq.mk Bq Bo)) (15 : Int) (4 : Int)).bind fun (BI, BA, Bw) =>
  qh.l9 K BC Bp Bn Bq Bo BD BB Bs K BA Bw (0 : Int)
def qh.j7 (K : Nat) (Bq : List qp) (Bs : (List Int)) (Bo : (List Int)) (Bt : (List Int)) (Bp : (List Int)) (Bu : (List ql)) (Bn : (List Int)) (Bv : Int) : qW ((List UInt8) × Int) :=
  cond (decide (Bv < (2 : Int)))
    (
    chk (inb (0 : Int) Bn.length) <|
    chk (inb (1 : Int) Bn.length) <|
    lt (Bn.set (Int.toNat (0 : Int)) (if (1 : Int) > (rd Bn (0 : Int)) then (1 : Int) else (rd Bn (0 : Int)))) fun (Br : (List Int)) =>
    chk (inb (1 : Int) Br.length) <|
    lt (Br.set (Int.toNat (1 : Int)) (if (1 : Int) > (rd Bn (1 : Int)) then (1 : Int) else (rd Bn (1 : Int)))) fun (Bw : (List Int)) =>
    qh.j8 K Bq Bs Bo Bt Bp Bu Bw)
    (
    qh.j8 K Bq Bs Bo Bt Bp Bu Bn)
def qh.l6 (K : Nat) (Br : List qp) (Bu : (List Int)) (Bo : (List Int)) (Bv : (List Int)) (Bp : (List Int)) (Bw : (List ql)) (Bn : (List Int)) : Nat → Int → Int → qW ((List UInt8) × Int)
  | 0, _, _ => .fail
  | k + 1, Bs, Bq =>
    cond (decide (Bq < (Bn.length : Int)))
      (
      chk (inb Bq Bn.length) <|
      lt ((rd Bn Bq)) fun (Bt : Int) =>
      lt ((qk (Bs + (if (1 : Int) < Bt then (1 : Int) else Bt)))) fun (Bx : Int) =>
      qh.l6 K Br Bu Bo Bv Bp Bw Bn k Bx (qk (Bq + (1 : Int))))
      (
      qh.j7 K Br Bu Bo Bv Bp Bw Bn Bs)
def qh.j5 (K : Nat) (Bq : List qp) (Br : (List Int)) (Bn : (List Int)) (Bs : (List Int)) (Bo : (List Int)) (Bt : (List ql)) (Bp : (List Int)) : qW ((List UInt8) × Int) :=
  qh.l6 K Bq Br Bn Bs Bo Bt Bp K (0 : Int) (0 : Int)
def qh.l4 (K : Nat) (Bs : List qp) (Bt : (List Int)) (Bp : (List Int)) (Bu : (List Int)) (Bq : (List Int)) (Bo : (List ql)) : Nat → (List Int) → Int → qW ((List UInt8) × Int)
  | 0, _, _ => .fail
  | k + 1, Bn, Br =>
    cond (decide (Br < (Bo.length : Int)))
      (
      chk (inb Br Bo.length) <|
      chk (inb (rd Bo Br).symbol_ Bn.length) <|
      lt (Bn.set (Int.toNat (rd Bo Br).symbol_) (qk ((rd Bn (rd Bo Br).symbol_) + (1 : Int)))) fun (Bv : (List Int)) =>
      qh.l4 K Bs Bt Bp Bu Bq Bo k Bv (qk (Br + (1 : Int))))
      (
      qh.j5 K Bs Bt Bp Bu Bq Bo Bn)
def qh.j3 (K : Nat) (Bu : List qp) (Bo : (List Int)) (Bn : (List Int)) : qW ((List UInt8) × Int) :=
  (qL.m K Bo).bind fun (Bp, Bx) =>
  (xo.m K Bp).bind fun Br =>
  (qL.m K Bn).bind fun (Bq, By) =>
  (xo.m K Bq).bind fun Bs =>
  chk (room (([] : List Int).length + Bp.length) 8) <|
  lt (([] : List Int) ++ Bp) fun (Bt : (List Int)) =>
  chk (room (Bt.length + Bq.length) 8) <|
  lt (Bt ++ Bq) fun (Bv : (List Int)) =>
  (qD.m K Bv).bind fun Bz =>
  chk (decide (0 ≤ (19 : Int)) && room (Int.toNat (19 : Int)) 8) <|
  lt (List.replicate (Int.toNat (19 : Int)) (0 : Int)) fun (Bw : (List Int)) =>
  qh.l4 K Bu Bp Br Bq Bs Bz K Bw (0 : Int)
def qh.l2 (K : Nat) (Bp : List qp) : Nat → (List Int) → (List Int) → Int → qW ((List UInt8) × Int)
  | 0, _, _, _ => .fail
  | k + 1, Bn, Bo, Bq =>
    cond (decide (Bq < (Bp.length : Int)))
      (
      chk (inb Bq Bp.length) <|
      cond ((rd Bp Bq).Dist_ == (0 : Int))
        (
        chk (inb (rd Bp Bq).Lit_ Bn.length) <|
        lt (Bn.set (Int.toNat (rd Bp Bq).Lit_) (qk ((rd Bn (rd Bp Bq).Lit_) + (1 : Int)))) fun (Bt : (List Int)) =>
        qh.l2 K Bp k Bt Bo (qk (Bq + (1 : Int))))
        (
        (xP.m K ((rd Bp Bq).Len_)).bind fun (Br, Bw, Bx) =>
        chk (inb Br Bn.length) <|
        lt (Bn.set (Int.toNat Br) (qk ((rd Bn Br) + (1 : Int)))) fun (Bu : (List Int)) =>
        (xy.m K ((rd Bp Bq).Dist_)).bind fun (Bs, By, Bz) =>
        chk (inb Bs Bo.length) <|
        lt (Bo.set (Int.toNat Bs) (qk ((rd Bo Bs) + (1 : Int)))) fun (Bv : (List Int)) =>
        qh.l2 K Bp k Bu Bv (qk (Bq + (1 : Int)))))
      (
      qh.j3 K Bp Bn Bo)
def qh.j1 (K : Nat) (Bp : List qp) (Bn : (List Int)) (Bo : (List Int)) : qW ((List UInt8) × Int) :=
  chk (inb (256 : Int) Bn.length) <|
  lt (Bn.set (Int.toNat (256 : Int)) (qk ((rd Bn (256 : Int)) + (1 : Int)))) fun (Bq : (List Int)) =>
  qh.l2 K Bp K Bq Bo (0 : Int)
def qh.m (K : Nat) (Bn : List qp) : qW ((List UInt8) × Int) :=
  (yi.m K Bn).bind fun Bq =>
  cond (!Bq)
    (
    .ok (([] : List UInt8), (1 : Int)))
    (
    chk (decide (0 ≤ (286 : Int)) && room (Int.toNat (286 : Int)) 8) <|
    lt (List.replicate (Int.toNat (286 : Int)) (0 : Int)) fun (Bo : (List Int)) =>
    chk (decide (0 ≤ (30 : Int)) && room (Int.toNat (30 : Int)) 8) <|
    lt (List.replicate (Int.toNat (30 : Int)) (0 : Int)) fun (Bp : (List Int)) =>
    qh.j1 K Bn Bo Bp)
def zi.j2 (K : Nat) (g1 : (List UInt8) → (List Int) → qW (List UInt8)) (Bo : List UInt8) (Bq : (List Int)) (Bn : Int) (Bp : Int) : qW (List UInt8) :=
  chk (room (Bq.length + ([Bp, (wr .u8 Bn), (wr .u8 (zR .i64 Bn (8 : Int))), (vz .u8 (wr .u8 Bn)), (vz .u8 (wr .u8 (zR .i64 Bn (8 : Int))))] : List Int).length) 1) <|
  lt (Bq ++ ([Bp, (wr .u8 Bn), (wr .u8 (zR .i64 Bn (8 : Int))), (vz .u8 (wr .u8 Bn)), (vz .u8 (wr .u8 (zR .i64 Bn (8 : Int))))] : List Int)) fun (Br : (List Int)) =>
  chk (subok (0 : Int) Bn Bo.length) <|
  chk (room (Br.length + (sub Bo (0 : Int) Bn).length) 1) <|
  lt (Br ++ (sub Bo (0 : Int) Bn).map vA) fun (Bs : (List Int)) =>
  chk (subok Bn (Bo.length : Int) Bo.length) <|
  lt ((sub Bo Bn (Bo.length : Int))) fun (Bt : List UInt8) =>
  cond (Bp == (1 : Int))
    (
    lt ((Bs.map ZX)) fun (Bu : List UInt8) =>
    .ok Bu)
    (
    g1 Bt Bs)
def zi.l1 (K : Nat)  : Nat → (List UInt8) → (List Int) → qW (List UInt8)
  | 0, _, _ => .fail
  | k + 1, Bn, Bp =>
    lt ((if (Bn.length : Int) < (65535 : Int) then (Bn.length : Int) else (65535 : Int))) fun (Bo : Int) =>
    cond (Bo == (Bn.length : Int))
      (
      zi.j2 K (zi.l1 K k) Bn Bp Bo (1 : Int))
      (
      zi.j2 K (zi.l1 K k) Bn Bp Bo (0 : Int))
def zi.m (K : Nat) (Bn : List UInt8) : qW (List UInt8) :=
  zi.l1 K K Bn ([] : List Int)
def xD.m (K : Nat) (Bn : zK) (Bo : Int) : qW Unit :=
  chk (inb Bo Bn.text_.length) <|
  chk (inb (qk (Bo + (1 : Int))) Bn.text_.length) <|
  chk (inb (qk (Bo + (2 : Int))) Bn.text_.length) <|
  .ok ()
def za.j2 (K : Nat) (g1 : Int → qW Int) (Bn : Int) (Bp : Bool) : qW Int :=
  cond Bp
    (
    lt ((qk (Bn + (1 : Int)))) fun (Bo : Int) =>
    g1 Bo)
    (
    .ok Bn)
def za.l1 (K : Nat) (Bo : zK) (Bq : Int) (Bp : Int) : Nat → Int → qW Int
  | 0, _ => .fail
  | k + 1, Bn =>
    cond (decide (Bn < (258 : Int)))
      (
      cond (decide ((qk (Bp + Bn)) < (Bo.text_.length : Int)))
        (
        chk (inb (qk (Bq + Bn)) Bo.text_.length) <|
        chk (inb (qk (Bp + Bn)) Bo.text_.length) <|
        za.j2 K (za.l1 K Bo Bq Bp k) Bn (((rd Bo.text_ (qk (Bq + Bn))).toNat : Int) == ((rd Bo.text_ (qk (Bp + Bn))).toNat : Int)))
        (
        za.j2 K (za.l1 K Bo Bq Bp k) Bn false))
      (
      za.j2 K (za.l1 K Bo Bq Bp k) Bn false)
def za.m (K : Nat) (Bn : zK) (Bo : Int) (Bp : Int) : qW Int :=
  za.l1 K Bn Bo Bp K (0 : Int)
def zm.j2 (K : Nat)  (Bo : Int) (Bn : Int) : qW (Int × Int) :=
  .ok (Bo, Bn)
def zm.l1 (K : Nat) (Bs : zK) (Br : Int) (Bo : (List Int)) : Nat → Int → Int → Int → qW (Int × Int)
  | 0, _, _, _ => .fail
  | k + 1, Bp, Bq, Bn =>
    cond ((decide (Bn < (32 : Int))) && (decide (Bn < (Bo.length : Int))))
      (
      chk (inb (qk ((qk ((Bo.length : Int) - (1 : Int))) - Bn)) Bo.length) <|
      lt ((rd Bo (qk ((qk ((Bo.length : Int) - (1 : Int))) - Bn)))) fun (Bv : Int) =>
      cond (decide ((qk (Br - Bv)) > (32768 : Int)))
        (
        zm.j2 K Bp Bq)
        (
        (za.m K Bs Bv Br).bind fun Bw =>
        cond (decide (Bw > Bp))
          (
          lt ((qk (Bn + (1 : Int)))) fun (Bt : Int) =>
          zm.l1 K Bs Br Bo k Bw (qk (Br - Bv)) Bt)
          (
          lt ((qk (Bn + (1 : Int)))) fun (Bu : Int) =>
          zm.l1 K Bs Br Bo k Bp Bq Bu)))
      (
      zm.j2 K Bp Bq)
def zm.m (K : Nat) (Bn : zK) (Bo : Int) : qW (Int × Int) :=
  cond (decide ((qk (Bo + (3 : Int))) > (Bn.text_.length : Int)))
    (
    .ok ((0 : Int), (0 : Int)))
    (
    (xD.m K Bn Bo).bind fun _ =>
    lt (yS Bn.seen_ ([((rd Bn.text_ Bo).toNat : Int), ((rd Bn.text_ (qk (Bo + (1 : Int)))).toNat : Int), ((rd Bn.text_ (qk (Bo + (2 : Int)))).toNat : Int)] : List Int)) fun (Bp : (List Int)) =>
    zm.l1 K Bn Bo Bp K (0 : Int) (0 : Int) (0 : Int))
def xE.m (K : Nat) (Bn : zK) (Bo : Int) : qW (List ((List Int) × (List Int))) :=
  cond (decide ((qk (Bo + (3 : Int))) ≤ (Bn.text_.length : Int)))
    (
    (xD.m K Bn Bo).bind fun _ =>
    lt (yS Bn.seen_ ([((rd Bn.text_ Bo).toNat : Int), ((rd Bn.text_ (qk (Bo + (1 : Int)))).toNat : Int), ((rd Bn.text_ (qk (Bo + (2 : Int)))).toNat : Int)] : List Int)) fun (Bp : (List Int)) =>
    chk (room (Bp.length + ([Bo] : List Int).length) 8) <|
    lt (Bp ++ ([Bo] : List Int)) fun (Bq : (List Int)) =>
    lt (vT Bn.seen_ ([((rd Bn.text_ Bo).toNat : Int), ((rd Bn.text_ (qk (Bo + (1 : Int)))).toNat : Int), ((rd Bn.text_ (qk (Bo + (2 : Int)))).toNat : Int)] : List Int) Bq) fun (Br : (List ((List Int) × (List Int)))) =>
    .ok Br)
    (
    .ok Bn.seen_)
def zo.l3 (K : Nat) (g1 : (List ((List Int) × (List Int))) → (List qp) → Int → qW (List qp)) (Bs : List UInt8) (Bn : Int) (Bp : (List qp)) : Nat → (List ((List Int) × (List Int))) → Int → Int → qW (List qp)
  | 0, _, _, _ => .fail
  | k + 1, Bo, Bq, Bt =>
    cond (decide (Bt < (if Bn > (1 : Int) then Bn else (1 : Int))))
      (
      (xE.m K (zK.mk Bs Bo) Bq).bind fun Br =>
      lt ((qk (Bq + (1 : Int)))) fun (Bu : Int) =>
      zo.l3 K g1 Bs Bn Bp k Br Bu (qk (Bt + (1 : Int))))
      (
      g1 Bo Bp Bq)
def zo.j2 (K : Nat) (g1 : (List ((List Int) × (List Int))) → (List qp) → Int → qW (List qp)) (Bt : List UInt8) (Bq : (List ((List Int) × (List Int)))) (Br : (List qp)) (Bu : Int) (Bp : Int) (Bn : Int) (Bo : Int) : qW (List qp) :=
  chk (room (Br.length + ([(qp.mk Bp Bn Bo)] : List qp).length) 24) <|
  lt (Br ++ ([(qp.mk Bp Bn Bo)] : List qp)) fun (Bs : (List qp)) =>
  zo.l3 K (g1) Bt Bn Bs K Bq Bu (0 : Int)
def zo.l1 (K : Nat) (Bn : List UInt8) : Nat → (List ((List Int) × (List Int))) → (List qp) → Int → qW (List qp)
  | 0, _, _, _ => .fail
  | k + 1, Bo, Bq, Bp =>
    cond (decide (Bp < (Bn.length : Int)))
      (
      (zm.m K (zK.mk Bn Bo) Bp).bind fun (Br, Bs) =>
      cond (decide (Br < (3 : Int)))
        (
        chk (inb Bp Bn.length) <|
        zo.j2 K (zo.l1 K Bn k) Bn Bo Bq Bp ((rd Bn Bp).toNat : Int) (0 : Int) (0 : Int))
        (
        zo.j2 K (zo.l1 K Bn k) Bn Bo Bq Bp (0 : Int) Br Bs))
      (
      .ok Bq)
def zo.m (K : Nat) (Bn : List UInt8) : qW (List qp) :=
  zo.l1 K Bn K ([] : List ((List Int) × (List Int))) ([] : List qp) (0 : Int)
def zp.j1 (K : Nat) (Bp : (List qp)) (Bn : List UInt8) : qW (List UInt8) :=
  (qh.m K Bp).bind fun (Bo, Bq) =>
  cond ((Bq == (0 : Int)) && (decide ((Bo.length : Int) < (Bn.length : Int))))
    (
    .ok Bo)
    (
    .ok Bn)
def zp.m (K : Nat) (Bo : List UInt8) : qW (List UInt8) :=
  (zo.m K Bo).bind fun Bn =>
  (zi.m K Bo).bind fun Bp =>
  (xH.m K Bn).bind fun (Bq, Br) =>
  cond ((Br == (0 : Int)) && (decide ((Bq.length : Int) < (Bp.length : Int))))
    (
    zp.j1 K Bn Bq)
    (
    zp.j1 K Bn Bp)
def zL.j1 (K : Nat)  (Bn : Bool) : qW Bool :=
  .ok Bn
def zL.m (K : Nat) : qW Bool :=
  (xH.m K ([(qp.mk (97 : Int) (0 : Int) (0 : Int))] : List qp)).bind fun (Bn, Bo) =>
  (qh.m K ([(qp.mk (0 : Int) (1 : Int) (0 : Int))] : List qp)).bind fun (Bs, Bp) =>
  (zi.m K ([] : List UInt8)).bind fun Bq =>
  cond ((((Bq == ([1, 0, 0, 255, 255] : List UInt8)) && (Bn == ([75, 4, 0] : List UInt8))) && (Bo == (0 : Int))) && (Bp == (1 : Int)))
    (
    (zp.m K ([] : List UInt8)).bind fun Br =>
    zL.j1 K (!(Br == ([] : List UInt8))))
    (
    zL.j1 K false)
def zq.j1 (K : Nat)  (Bn : Bool) : qW Bool :=
  .ok Bn
def zq.m (K : Nat) (Bo : List UInt8) (Bn : List qp) : qW Bool :=
  cond ((decide ((Bo.length : Int) > (4000 : Int))) || (decide ((Bn.length : Int) > (300 : Int))))
    (
    (zL.m K).bind fun Bp =>
    .ok Bp)
    (
    (qh.m K Bn).bind fun (Bq, Br) =>
    (qh.m K Bn).bind fun (Bs, Bt) =>
    (zp.m K Bo).bind fun Bu =>
    (zp.m K Bo).bind fun Bv =>
    cond (((Bu == Bv) && (Bq == Bs)) && (Br == Bt))
      (
      (zL.m K).bind fun Bw =>
      zq.j1 K Bw)
      (
      zq.j1 K false))
end Go.Mo
