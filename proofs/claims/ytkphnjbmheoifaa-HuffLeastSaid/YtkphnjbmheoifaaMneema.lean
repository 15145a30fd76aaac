/- Models of the Go functions that this statement reaches, printed by a program of mine: nothing is proved but lengths of tables. -/
import Derived.Test.YtkphnjbmheoifaaOwnphnmh
set_option linter.unusedVariables false
set_option linter.unusedSimpArgs false
namespace Go.Mo
open Go Go.Sl
structure zg where
  counts_ : (List Int)
  symbols_ : (List Int)
  deriving Inhabited
structure qb where
  often_ : Int
  symbols_ : (List Int)
  deriving Inhabited
structure zp where
  at_ : Int
  deriving Inhabited
structure qM where
  place_ : zp
  text_ : List UInt8
  deriving Inhabited
structure vA where
  S_ : List UInt8
  At_ : Int
  deriving Inhabited
structure QL where
  place_ : zp
  bytes_ : (List Int)
  deriving Inhabited
abbrev yy : TypeId := 9
def zu.j2 (K : Nat)  (Ya : (List Int)) : qN ((List Int) × Bool) :=
  lt (Ya.set (Int.toNat (0 : Int)) (0 : Int)) fun (Yb : (List Int)) =>
  .ok (Yb, true)
def zu.l1 (K : Nat) (Ya : List Int) : Nat → (List Int) → Int → qN ((List Int) × Bool)
  | 0, _, _ => .fail
  | k + 1, Yc, Yd =>
    cond (decide (Yd < (Ya.length : Int)))
      (
      chk (inb Yd Ya.length) <|
      lt ((rd Ya Yd)) fun (Yb : Int) =>
      cond ((decide (Yb < (0 : Int))) || (decide (Yb > (15 : Int))))
        (
        .ok (Yc, false))
        (
        chk (inb Yb 16) <|
        lt (Yc.set (Int.toNat Yb) (ql ((rd Yc Yb) + (1 : Int)))) fun (Ye : (List Int)) =>
        zu.l1 K Ya k Ye (ql (Yd + (1 : Int)))))
      (
      zu.j2 K Yc)
def zu.m (K : Nat) (Ya : List Int) : qN ((List Int) × Bool) :=
  cond (decide ((Ya.length : Int) > (320 : Int)))
    (
    .ok ((List.replicate 16 (0 : Int)), false))
    (
    zu.l1 K Ya K (List.replicate 16 (0 : Int)) (0 : Int))
def zt.j2 (K : Nat) (Yb : (List Int)) (Ya : Int) : qN Int :=
  cond (((Ya == (0 : Int)) || (Ya == (32768 : Int))) || (Yb == ([0, (1 : Int), 0, 0, 0, 0, 0, 0, 0, 0, 0, 0, 0, 0, 0, 0] : List Int)))
    (
    .ok (0 : Int))
    (
    .ok (3 : Int))
def zt.l1 (K : Nat) (Ye : (List Int)) : Nat → Int → Int → qN Int
  | 0, _, _ => .fail
  | k + 1, Ya, Yc =>
    cond (decide (Yc < (16 : Int)))
      (
      chk (inb Yc 16) <|
      lt ((rd Ye Yc)) fun (Yd : Int) =>
      chk (decide (0 ≤ Yc)) <|
      lt ((ql (Ya + (ql (Yd * (yk .i64 (32768 : Int) Yc)))))) fun (Yb : Int) =>
      zt.l1 K Ye k Yb (ql (Yc + (1 : Int))))
      (
      zt.j2 K Ye Ya)
def zt.m (K : Nat) (Ya : List Int) : qN Int :=
  (zu.m K Ya).bind fun (Yb, Yc) =>
  cond (!Yc)
    (
    .ok (1 : Int))
    (
    zt.l1 K Yb K (0 : Int) (0 : Int))
def qO.j2 (K : Nat)  (Ya : (List Int)) : qN (List Int) :=
  .ok Ya
def qO.l1 (K : Nat) (Ye : List Int) : Nat → (List Int) → Int → Int → qN (List Int)
  | 0, _, _, _ => .fail
  | k + 1, Yb, Yd, Ya =>
    cond (decide (Ya ≤ (15 : Int)))
      (
      chk (inb (ql (Ya - (1 : Int))) 16) <|
      lt ((xn .i64 (ql (Yd + (rd Ye (ql (Ya - (1 : Int)))))) (1 : Int))) fun (Yc : Int) =>
      chk (inb Ya 16) <|
      lt (Yb.set (Int.toNat Ya) Yc) fun (Yg : (List Int)) =>
      lt ((ql (Ya + (1 : Int)))) fun (Yf : Int) =>
      qO.l1 K Ye k Yg Yc Yf)
      (
      qO.j2 K Yb)
def qO.m (K : Nat) (Ya : List Int) : qN (List Int) :=
  qO.l1 K Ya K (List.replicate 16 (0 : Int)) (0 : Int) (1 : Int)
def zQ.l1 (K : Nat) (Ya : List Int) : Nat → (List Int) → (List Int) → Int → qN ((List Int) × Int)
  | 0, _, _, _ => .fail
  | k + 1, Yb, Yc, Ye =>
    cond (decide (Ye < (Ya.length : Int)))
      (
      chk (inb Ye Ya.length) <|
      lt ((rd Ya Ye)) fun (Yd : Int) =>
      cond (decide (Yd > (0 : Int)))
        (
        chk (inb Yd 16) <|
        chk (inb Ye Yc.length) <|
        lt (Yc.set (Int.toNat Ye) (rd Yb Yd)) fun (Yf : (List Int)) =>
        lt (Yb.set (Int.toNat Yd) (ql ((rd Yb Yd) + (1 : Int)))) fun (Yg : (List Int)) =>
        zQ.l1 K Ya k Yg Yf (ql (Ye + (1 : Int))))
        (
        zQ.l1 K Ya k Yb Yc (ql (Ye + (1 : Int)))))
      (
      .ok (Yc, (0 : Int)))
def zQ.m (K : Nat) (Ya : List Int) : qN ((List Int) × Int) :=
  (zt.m K Ya).bind fun Yb =>
  cond (Yb != (0 : Int))
    (
    .ok (([] : List Int), Yb))
    (
    (zu.m K Ya).bind fun (Yd, Yf) =>
    (qO.m K Yd).bind fun Ye =>
    chk (decide (0 ≤ (Ya.length : Int)) && room (Int.toNat (Ya.length : Int)) 8) <|
    lt (List.replicate (Int.toNat (Ya.length : Int)) (0 : Int)) fun (Yc : (List Int)) =>
    zQ.l1 K Ya K Ye Yc (0 : Int))
def qn.j4 (K : Nat) (Ya : Int) (Yb : Bool) : qN Int :=
  cond (Yb || (Ya == (32768 : Int)))
    (
    .ok (0 : Int))
    (
    .ok (3 : Int))
def qn.j3 (K : Nat) (Ya : Int) (Yb : Bool) : qN Int :=
  qn.j4 K Ya Yb
def qn.j2 (K : Nat)  (Ya : Int) (Yc : Int) (Yb : Int) : qN Int :=
  cond (Yc == (0 : Int))
    (
    qn.j4 K Ya true)
    (
    cond (Yc == (1 : Int))
      (
      qn.j3 K Ya (Yb == (1 : Int)))
      (
      qn.j3 K Ya false))
def qn.l1 (K : Nat) (Ya : List Int) : Nat → Int → Int → Int → Int → qN Int
  | 0, _, _, _, _ => .fail
  | k + 1, Yc, Ye, Yd, Yb =>
    cond (decide (Yb < (Ya.length : Int)))
      (
      chk (inb Yb Ya.length) <|
      cond ((decide ((rd Ya Yb) < (0 : Int))) || (decide ((rd Ya Yb) > (15 : Int))))
        (
        .ok (1 : Int))
        (
        cond (decide ((rd Ya Yb) > (0 : Int)))
          (
          chk (decide (0 ≤ (wr .u64 (ql ((15 : Int) - (rd Ya Yb)))))) <|
          lt ((ql (Yc + (xn .i64 (1 : Int) (wr .u64 (ql ((15 : Int) - (rd Ya Yb)))))))) fun (Yg : Int) =>
          lt ((ql (Ye + (1 : Int)))) fun (Yh : Int) =>
          lt ((rd Ya Yb)) fun (Yf : Int) =>
          lt ((ql (Yb + (1 : Int)))) fun (Yi : Int) =>
          qn.l1 K Ya k Yg Yh Yf Yi)
          (
          lt ((ql (Yb + (1 : Int)))) fun (Yj : Int) =>
          qn.l1 K Ya k Yc Ye Yd Yj)))
      (
      qn.j2 K Yc Ye Yd)
def qn.m (K : Nat) (Ya : List Int) : qN Int :=
  cond (decide ((Ya.length : Int) > (320 : Int)))
    (
    .ok (1 : Int))
    (
    qn.l1 K Ya K (0 : Int) (0 : Int) (0 : Int) (0 : Int))
def qF.l1 (K : Nat) (Ya : List Int) (Yc : List Int) : Nat → Int → qN Bool
  | 0, _ => .fail
  | k + 1, Yb =>
    cond (decide (Yb < (Ya.length : Int)))
      (
      chk (inb Yb Ya.length) <|
      chk (inb Yb Yc.length) <|
      cond ((rd Ya Yb) != (rd Yc Yb))
        (
        .ok false)
        (
        lt ((ql (Yb + (1 : Int)))) fun (Yd : Int) =>
        qF.l1 K Ya Yc k Yd))
      (
      .ok true)
def qF.m (K : Nat) (Ya : List Int) (Yb : List Int) : qN Bool :=
  cond ((Ya.length : Int) != (Yb.length : Int))
    (
    .ok false)
    (
    qF.l1 K Ya Yb K (0 : Int))
def zx.l2 (K : Nat) (g1 : (List Int) → Int → qN ((Option zg) × Int)) (Ya : List Int) (Yd : Int) : Nat → (List Int) → Int → qN ((Option zg) × Int)
  | 0, _, _ => .fail
  | k + 1, Yb, Yc =>
    cond (decide (Yc < (Ya.length : Int)))
      (
      chk (inb Yc Ya.length) <|
      lt ((rd Ya Yc)) fun (Ye : Int) =>
      cond (Ye == Yd)
        (
        chk (room (Yb.length + ([Yc] : List Int).length) 8) <|
        lt (Yb ++ ([Yc] : List Int)) fun (Yg : (List Int)) =>
        zx.l2 K g1 Ya Yd k Yg (ql (Yc + (1 : Int))))
        (
        zx.l2 K g1 Ya Yd k Yb (ql (Yc + (1 : Int)))))
      (
      lt ((ql (Yd + (1 : Int)))) fun (Yf : Int) =>
      g1 Yb Yf)
def zx.l1 (K : Nat) (Ya : List Int) (Yd : (List Int)) : Nat → (List Int) → Int → qN ((Option zg) × Int)
  | 0, _, _ => .fail
  | k + 1, Yb, Yc =>
    cond (decide (Yc ≤ (15 : Int)))
      (
      zx.l2 K (zx.l1 K Ya Yd k) Ya Yc K Yb (0 : Int))
      (
      .ok ((some (zg.mk Yd Yb)), (0 : Int)))
def zx.m (K : Nat) (Ya : List Int) : qN ((Option zg) × Int) :=
  (zt.m K Ya).bind fun Yb =>
  cond (Yb != (0 : Int))
    (
    .ok (none, Yb))
    (
    (zu.m K Ya).bind fun (Yc, Yd) =>
    zx.l1 K Ya Yc K ([] : List Int) (1 : Int))
def xb.m (K : Nat) (Ya : Int) : qN Bool :=
  lt (((decide (Ya < (0 : Int))) || (decide (Ya > (1099511627776 : Int))))) fun (Yb : Bool) =>
  .ok Yb
def qB.l1 (K : Nat) (Yb : List Int) : Nat → Int → qN Int
  | 0, _ => .fail
  | k + 1, Ya =>
    cond (decide (Ya < (Yb.length : Int)))
      (
      chk (inb Ya Yb.length) <|
      (xb.m K (rd Yb Ya)).bind fun Yc =>
      cond Yc
        (
        .ok Ya)
        (
        qB.l1 K Yb k (ql (Ya + (1 : Int)))))
      (
      .ok (-1 : Int))
def qB.m (K : Nat) (Ya : List Int) : qN Int :=
  qB.l1 K Ya K (0 : Int)
def qV.m (K : Nat) (Ya : List Int) : qN Bool :=
  (qB.m K Ya).bind fun Yc =>
  lt ((decide (Yc ≥ (0 : Int)))) fun (Yb : Bool) =>
  .ok Yb
def zV.m (K : Nat) (Ya : Int) : qN Bool :=
  lt ((Ya != Ya)) fun (Yb : Bool) =>
  .ok Yb
def zK.m (K : Nat) (Ya : Int) (Yb : Int) : qN Int :=
  (zV.m K Ya).bind fun Yd =>
  (zV.m K Yb).bind fun Yc =>
  cond Yd
    (
    cond Yc
      (
      .ok (0 : Int))
      (
      .ok (-1 : Int)))
    (
    cond Yc
      (
      .ok (1 : Int))
      (
      cond (decide (Ya < Yb))
        (
        .ok (-1 : Int))
        (
        cond (decide (Ya > Yb))
          (
          .ok (1 : Int))
          (
          .ok (0 : Int)))))
def zl.m (K : Nat) (Ya : qb) (Yc : qb) : qN Int :=
  (zK.m K Ya.often_ Yc.often_).bind fun Yb =>
  .ok Yb
def qc.j3 (K : Nat) (g1 : (List qb) → Int → qN (List qb)) (g2 : (List qb) → Int → qN (List qb)) (Ye : Int) (Ya : (List qb)) (Yb : Int) (Yh : Bool) : qN (List qb) :=
  cond Yh
    (
    chk (inb (ql (Yb - (1 : Int))) Ya.length) <|
    chk (inb Yb Ya.length) <|
    lt (Ya.set (Int.toNat Yb) (qb.mk ((rd Ya (ql (Yb - (1 : Int)))).often_) ((rd Ya (ql (Yb - (1 : Int)))).symbols_))) fun (Yc : (List qb)) =>
    chk (inb (ql (Yb - (1 : Int))) Yc.length) <|
    lt (Yc.set (Int.toNat (ql (Yb - (1 : Int)))) (qb.mk ((rd Ya Yb).often_) ((rd Ya Yb).symbols_))) fun (Yd : (List qb)) =>
    lt ((ql (Yb - (1 : Int)))) fun (Yg : Int) =>
    g2 Yd Yg)
    (
    lt ((ql (Ye + (1 : Int)))) fun (Yf : Int) =>
    g1 Ya Yf)
def qc.l2 (K : Nat) (g1 : (List qb) → Int → qN (List qb)) (Yd : Int) (Yc : Int) : Nat → (List qb) → Int → qN (List qb)
  | 0, _, _ => .fail
  | k + 1, Ya, Yb =>
    cond (decide (Yb > Yd))
      (
      chk (inb Yb Ya.length) <|
      chk (inb (ql (Yb - (1 : Int))) Ya.length) <|
      (zl.m K (qb.mk ((rd Ya Yb).often_) ((rd Ya Yb).symbols_)) (qb.mk ((rd Ya (ql (Yb - (1 : Int)))).often_) ((rd Ya (ql (Yb - (1 : Int)))).symbols_))).bind fun Ye =>
      qc.j3 K (g1) (qc.l2 K g1 Yd Yc k) Yc Ya Yb (decide (Ye < (0 : Int))))
      (
      qc.j3 K (g1) (qc.l2 K g1 Yd Yc k) Yc Ya Yb false)
def qc.l1 (K : Nat) (Yc : Int) (Yd : Int) : Nat → (List qb) → Int → qN (List qb)
  | 0, _, _ => .fail
  | k + 1, Ya, Yb =>
    cond (decide (Yb < Yd))
      (
      qc.l2 K (qc.l1 K Yc Yd k) Yc Yb K Ya Yb)
      (
      .ok Ya)
def qc.m (K : Nat) (Ya : List qb) (Yb : Int) (Yc : Int) : qN (List qb) :=
  lt ((ql (Yb + (1 : Int)))) fun (Yd : Int) =>
  qc.l1 K Yb Yc K Ya Yd
def qm.l1 (K : Nat) (Yd : Int) (Yc : Int) (Ye : Int) : Nat → (List qb) → Int → qN (List qb)
  | 0, _, _ => .fail
  | k + 1, Ya, Yb =>
    cond (decide (Yb < Ye))
      (
      chk (inb (ql (Yc + Yb)) Ya.length) <|
      chk (inb (ql (Yd + Yb)) Ya.length) <|
      lt (Ya.set (Int.toNat (ql (Yd + Yb))) (qb.mk ((rd Ya (ql (Yc + Yb))).often_) ((rd Ya (ql (Yc + Yb))).symbols_))) fun (Yf : (List qb)) =>
      chk (inb (ql (Yc + Yb)) Yf.length) <|
      lt (Yf.set (Int.toNat (ql (Yc + Yb))) (qb.mk ((rd Ya (ql (Yd + Yb))).often_) ((rd Ya (ql (Yd + Yb))).symbols_))) fun (Yg : (List qb)) =>
      lt ((ql (Yb + (1 : Int)))) fun (Yh : Int) =>
      qm.l1 K Yd Yc Ye k Yg Yh)
      (
      .ok Ya)
def qm.m (K : Nat) (Ya : List qb) (Yb : Int) (Yc : Int) (Yd : Int) : qN (List qb) :=
  qm.l1 K Yb Yc Yd K Ya (0 : Int)
def qj.j2 (K : Nat) (Yd : Int) (Ya : (List qb)) (Yc : Int) : qN (List qb) :=
  (qm.m K Ya (ql (Yd - Yc)) Yd Yc).bind fun Yb =>
  .ok Yb
def qj.l1 (K : Nat) (Yd : Int) : Nat → (List qb) → Int → Int → qN (List qb)
  | 0, _, _, _ => .fail
  | k + 1, Yb, Ya, Yc =>
    cond (Ya != Yc)
      (
      cond (decide (Ya > Yc))
        (
        (qm.m K Yb (ql (Yd - Ya)) Yd Yc).bind fun Ye =>
        lt ((ql (Ya - Yc))) fun (Yg : Int) =>
        qj.l1 K Yd k Ye Yg Yc)
        (
        (qm.m K Yb (ql (Yd - Ya)) (ql ((ql (Yd + Yc)) - Ya)) Ya).bind fun Yf =>
        lt ((ql (Yc - Ya))) fun (Yh : Int) =>
        qj.l1 K Yd k Yf Ya Yh))
      (
      qj.j2 K Yd Yb Ya)
def qj.m (K : Nat) (Ya : List qb) (Yc : Int) (Yb : Int) (Yd : Int) : qN (List qb) :=
  lt ((ql (Yb - Yc))) fun (Ye : Int) =>
  lt ((ql (Yd - Yb))) fun (Yf : Int) =>
  qj.l1 K Yb K Ya Ye Yf
def qa.l3 (K : Nat) (rc : (List qb) → Int → Int → Int → qN (List qb)) (Yd : Int) : Nat → (List qb) → Int → qN (List qb)
  | 0, _, _ => .fail
  | k + 1, Ya, Yb =>
    cond (decide (Yb < (ql (Yd - (1 : Int)))))
      (
      chk (inb (ql (Yb + (1 : Int))) Ya.length) <|
      chk (inb Yb Ya.length) <|
      lt (Ya.set (Int.toNat Yb) (qb.mk ((rd Ya (ql (Yb + (1 : Int)))).often_) ((rd Ya (ql (Yb + (1 : Int)))).symbols_))) fun (Yc : (List qb)) =>
      chk (inb (ql (Yb + (1 : Int))) Yc.length) <|
      lt (Yc.set (Int.toNat (ql (Yb + (1 : Int)))) (qb.mk ((rd Ya Yb).often_) ((rd Ya Yb).symbols_))) fun (Yf : (List qb)) =>
      lt ((ql (Yb + (1 : Int)))) fun (Ye : Int) =>
      qa.l3 K rc Yd k Yf Ye)
      (
      .ok Ya)
def qa.j2 (K : Nat) (rc : (List qb) → Int → Int → Int → qN (List qb)) (Ya : List qb) (Yb : Int) (Yc : Int) : qN (List qb) :=
  qa.l3 K rc Yc K Ya Yb
def qa.l1 (K : Nat) (rc : (List qb) → Int → Int → Int → qN (List qb)) (Ya : List qb) (Yb : Int) : Nat → Int → Int → qN (List qb)
  | 0, _, _ => .fail
  | k + 1, Yd, Ye =>
    cond (decide (Yd < Ye))
      (
      lt ((wr .i64 (yk .u64 (wr .u64 (ql (Yd + Ye))) (1 : Int)))) fun (Yc : Int) =>
      chk (inb Yc Ya.length) <|
      chk (inb Yb Ya.length) <|
      (zl.m K (qb.mk ((rd Ya Yc).often_) ((rd Ya Yc).symbols_)) (qb.mk ((rd Ya Yb).often_) ((rd Ya Yb).symbols_))).bind fun Yg =>
      cond (decide (Yg < (0 : Int)))
        (
        lt ((ql (Yc + (1 : Int)))) fun (Yf : Int) =>
        qa.l1 K rc Ya Yb k Yf Ye)
        (
        qa.l1 K rc Ya Yb k Yd Yc))
      (
      qa.j2 K rc Ya Yb Yd)
def qa.l7 (K : Nat) (rc : (List qb) → Int → Int → Int → qN (List qb)) (Yd : Int) : Nat → (List qb) → Int → qN (List qb)
  | 0, _, _ => .fail
  | k + 1, Ya, Yb =>
    cond (decide (Yb > Yd))
      (
      chk (inb (ql (Yb - (1 : Int))) Ya.length) <|
      chk (inb Yb Ya.length) <|
      lt (Ya.set (Int.toNat Yb) (qb.mk ((rd Ya (ql (Yb - (1 : Int)))).often_) ((rd Ya (ql (Yb - (1 : Int)))).symbols_))) fun (Yc : (List qb)) =>
      chk (inb (ql (Yb - (1 : Int))) Yc.length) <|
      lt (Yc.set (Int.toNat (ql (Yb - (1 : Int)))) (qb.mk ((rd Ya Yb).often_) ((rd Ya Yb).symbols_))) fun (Yf : (List qb)) =>
      lt ((ql (Yb - (1 : Int)))) fun (Ye : Int) =>
      qa.l7 K rc Yd k Yf Ye)
      (
      .ok Ya)
def qa.j6 (K : Nat) (rc : (List qb) → Int → Int → Int → qN (List qb)) (Ya : List qb) (Yc : Int) (Yb : Int) : qN (List qb) :=
  qa.l7 K rc Yb K Ya Yc
def qa.l5 (K : Nat) (rc : (List qb) → Int → Int → Int → qN (List qb)) (Ya : List qb) (Yb : Int) : Nat → Int → Int → qN (List qb)
  | 0, _, _ => .fail
  | k + 1, Yd, Ye =>
    cond (decide (Yd < Ye))
      (
      lt ((wr .i64 (yk .u64 (wr .u64 (ql (Yd + Ye))) (1 : Int)))) fun (Yc : Int) =>
      chk (inb Yb Ya.length) <|
      chk (inb Yc Ya.length) <|
      (zl.m K (qb.mk ((rd Ya Yb).often_) ((rd Ya Yb).symbols_)) (qb.mk ((rd Ya Yc).often_) ((rd Ya Yc).symbols_))).bind fun Yg =>
      cond (!(decide (Yg < (0 : Int))))
        (
        lt ((ql (Yc + (1 : Int)))) fun (Yf : Int) =>
        qa.l5 K rc Ya Yb k Yf Ye)
        (
        qa.l5 K rc Ya Yb k Yd Yc))
      (
      qa.j6 K rc Ya Yb Yd)
def qa.j13 (K : Nat) (rc : (List qb) → Int → Int → Int → qN (List qb)) (Yd : Int) (Yc : Int) (Ya : Int) (Yb : (List qb)) : qN (List qb) :=
  cond ((decide (Yc < Ya)) && (decide (Ya < Yd)))
    (
    (rc Yb Yc Ya Yd).bind fun Ye =>
    .ok Ye)
    (
    .ok Yb)
def qa.j12 (K : Nat) (rc : (List qb) → Int → Int → Int → qN (List qb)) (Ye : Int) (Yf : Int) (Yb : Int) (Ya : Int) (Yd : Int) (Yc : (List qb)) : qN (List qb) :=
  cond ((decide (Ye < Ya)) && (decide (Ya < Yb)))
    (
    (rc Yc Ye Ya Yb).bind fun Yg =>
    qa.j13 K rc Yf Yb Yd Yg)
    (
    qa.j13 K rc Yf Yb Yd Yc)
def qa.j11 (K : Nat) (rc : (List qb) → Int → Int → Int → qN (List qb)) (Yc : List qb) (Ye : Int) (Yh : Int) (Yf : Int) (Yd : Int) (Yi : Int) (Ya : Int) : qN (List qb) :=
  lt ((ql (Yi - Ya))) fun (Yb : Int) =>
  cond ((decide (Ya < Yh)) && (decide (Yh < Yb)))
    (
    (qj.m K Yc Ya Yh Yb).bind fun Yg =>
    qa.j12 K rc Ye Yf Yd Ya Yb Yg)
    (
    qa.j12 K rc Ye Yf Yd Ya Yb Yc)
def qa.l10 (K : Nat) (rc : (List qb) → Int → Int → Int → qN (List qb)) (Ya : List qb) (Yf : Int) (Yj : Int) (Yg : Int) (Yd : Int) (Yh : Int) (Ye : Int) : Nat → Int → Int → qN (List qb)
  | 0, _, _ => .fail
  | k + 1, Yc, Yk =>
    cond (decide (Yc < Yk))
      (
      lt ((wr .i64 (yk .u64 (wr .u64 (ql (Yc + Yk))) (1 : Int)))) fun (Yb : Int) =>
      chk (inb (ql (Ye - Yb)) Ya.length) <|
      chk (inb Yb Ya.length) <|
      (zl.m K (qb.mk ((rd Ya (ql (Ye - Yb))).often_) ((rd Ya (ql (Ye - Yb))).symbols_)) (qb.mk ((rd Ya Yb).often_) ((rd Ya Yb).symbols_))).bind fun Yl =>
      cond (!(decide (Yl < (0 : Int))))
        (
        lt ((ql (Yb + (1 : Int)))) fun (Yi : Int) =>
        qa.l10 K rc Ya Yf Yj Yg Yd Yh Ye k Yi Yk)
        (
        qa.l10 K rc Ya Yf Yj Yg Yd Yh Ye k Yc Yb))
      (
      qa.j11 K rc Ya Yf Yj Yg Yd Yh Yc)
def qa.j9 (K : Nat) (rc : (List qb) → Int → Int → Int → qN (List qb)) (Yb : List qb) (Ye : Int) (Yg : Int) (Yf : Int) (Yd : Int) (Yc : Int) (Ya : Int) (Yi : Int) : qN (List qb) :=
  lt ((ql (Yc - (1 : Int)))) fun (Yh : Int) =>
  qa.l10 K rc Yb Ye Yg Yf Yd Yc Yh K Ya Yi
def qa.j8 (K : Nat) (rc : (List qb) → Int → Int → Int → qN (List qb)) (Yd : List qb) (Yb : Int) (Ye : Int) (Yc : Int) : qN (List qb) :=
  lt ((wr .i64 (yk .u64 (wr .u64 (ql (Yb + Yc))) (1 : Int)))) fun (Ya : Int) =>
  lt ((ql (Ya + Ye))) fun (Yf : Int) =>
  cond (decide (Ye > Ya))
    (
    lt ((ql (Yf - Yc))) fun (Yg : Int) =>
    qa.j9 K rc Yd Yb Ye Yc Ya Yf Yg Ya)
    (
    qa.j9 K rc Yd Yb Ye Yc Ya Yf Yb Ye)
def qa.j4 (K : Nat) (rc : (List qb) → Int → Int → Int → qN (List qb)) (Ya : List qb) (Yc : Int) (Yb : Int) (Yd : Int) : qN (List qb) :=
  cond ((ql (Yd - Yb)) == (1 : Int))
    (
    qa.l5 K rc Ya Yb K Yc Yb)
    (
    qa.j8 K rc Ya Yc Yb Yd)
def qa.b (K : Nat) (rc : (List qb) → Int → Int → Int → qN (List qb)) (Ya : List qb) (Yb : Int) (Yd : Int) (Yc : Int) : qN (List qb) :=
  cond ((ql (Yd - Yb)) == (1 : Int))
    (
    qa.l1 K rc Ya Yb K Yd Yc)
    (
    qa.j4 K rc Ya Yb Yd Yc)
def qa.r (K : Nat) : Nat → (List qb) → Int → Int → Int → qN (List qb)
  | 0 => fun _ _ _ _ => .fail
  | d + 1 => qa.b K (qa.r K d)
def qa.m (K : Nat) (Ya : List qb) (Yb : Int) (Yd : Int) (Yc : Int) : qN (List qb) := qa.r K K Ya Yb Yd Yc
def qd.j5 (K : Nat) (g3 : (List qb) → Int → qN (List qb)) (Yh : Int) (Ya : Int) (Yd : (List qb)) (Ye : Int) : qN (List qb) :=
  lt ((ql (Ye + Ya))) fun (Yg : Int) =>
  cond (decide (Yg < Yh))
    (
    (qa.m K Yd Ye Yg Yh).bind fun Yf =>
    lt ((ql (Ya * (2 : Int)))) fun (Yb : Int) =>
    g3 Yf Yb)
    (
    lt ((ql (Ya * (2 : Int)))) fun (Yc : Int) =>
    g3 Yd Yc)
def qd.l4 (K : Nat) (g3 : (List qb) → Int → qN (List qb)) (Yf : Int) (Ya : Int) : Nat → (List qb) → Int → Int → qN (List qb)
  | 0, _, _, _ => .fail
  | k + 1, Yc, Yd, Yb =>
    cond (decide (Yb ≤ Yf))
      (
      (qa.m K Yc Yd (ql (Yd + Ya)) Yb).bind fun Ye =>
      lt ((ql (Yb + (ql ((2 : Int) * Ya))))) fun (Yg : Int) =>
      qd.l4 K g3 Yf Ya k Ye Yb Yg)
      (
      qd.j5 K (g3) Yf Ya Yc Yd)
def qd.l3 (K : Nat) (Yc : Int) : Nat → (List qb) → Int → qN (List qb)
  | 0, _, _ => .fail
  | k + 1, Yb, Ya =>
    cond (decide (Ya < Yc))
      (
      lt ((ql ((2 : Int) * Ya))) fun (Yd : Int) =>
      qd.l4 K (qd.l3 K Yc k) Yc Ya K Yb (0 : Int) Yd)
      (
      .ok Yb)
def qd.j2 (K : Nat) (Yc : Int) (Ya : (List qb)) (Yd : Int) : qN (List qb) :=
  (qc.m K Ya Yd Yc).bind fun Yb =>
  qd.l3 K Yc K Yb (20 : Int)
def qd.l1 (K : Nat) (Ye : Int) : Nat → (List qb) → Int → Int → qN (List qb)
  | 0, _, _, _ => .fail
  | k + 1, Yb, Yc, Ya =>
    cond (decide (Ya ≤ Ye))
      (
      (qc.m K Yb Yc Ya).bind fun Yd =>
      lt ((ql (Ya + (20 : Int)))) fun (Yf : Int) =>
      qd.l1 K Ye k Yd Ya Yf)
      (
      qd.j2 K Ye Yb Yc)
def qd.m (K : Nat) (Ya : List qb) (Yb : Int) : qN (List qb) :=
  qd.l1 K Yb K Ya (0 : Int) (20 : Int)
def qq.m (K : Nat) (Yb : List qb) : qN (List qb) :=
  (qd.m K Yb (Yb.length : Int)).bind fun Ya =>
  .ok Ya
def zi.m (K : Nat) (Yb : Int) : qN Unit :=
  cond (decide (Yb < (0 : Int)))
    (
    .pan (.iface yy (yF ([99, 97, 110, 110, 111, 116, 32, 98, 101, 32, 110, 101, 103, 97, 116, 105, 118, 101] : List UInt8))))
    (
    lt ((ql (Yb - (ql ((0 : Int) - (0 : Int)))))) fun (Ya : Int) =>
    cond (decide (Ya > (0 : Int)))
      (
      chk (decide ((0 : Int) < Ya) && room (Int.toNat Ya) 8) <|
      .ok ())
      (
      .ok ()))
def qp.l3 (K : Nat) (Ya : List (List Int)) : Nat → (List Int) → Int → qN (List Int)
  | 0, _, _ => .fail
  | k + 1, Yb, Yc =>
    cond (decide (Yc < (Ya.length : Int)))
      (
      chk (inb Yc Ya.length) <|
      chk (room (Yb.length + (rd Ya Yc).length) 8) <|
      lt (Yb ++ (rd Ya Yc)) fun (Yd : (List Int)) =>
      qp.l3 K Ya k Yd (ql (Yc + (1 : Int))))
      (
      .ok Yb)
def qp.j2 (K : Nat) (Ya : List (List Int)) (Yb : Int) : qN (List Int) :=
  (zi.m K Yb).bind fun _ =>
  qp.l3 K Ya K ([] : List Int) (0 : Int)
def qp.l1 (K : Nat) (Ya : List (List Int)) : Nat → Int → Int → qN (List Int)
  | 0, _, _ => .fail
  | k + 1, Yb, Yd =>
    cond (decide (Yd < (Ya.length : Int)))
      (
      chk (inb Yd Ya.length) <|
      lt ((ql (Yb + ((rd Ya Yd).length : Int)))) fun (Yc : Int) =>
      cond (decide (Yc < (0 : Int)))
        (
        .pan (.iface yy (yF ([108, 101, 110, 32, 111, 117, 116, 32, 111, 102, 32, 114, 97, 110, 103, 101] : List UInt8))))
        (
        qp.l1 K Ya k Yc (ql (Yd + (1 : Int)))))
      (
      qp.j2 K Ya Yb)
def qp.m (K : Nat) (Ya : List (List Int)) : qN (List Int) :=
  qp.l1 K Ya K (0 : Int) (0 : Int)
def zq.l1 (K : Nat) (Ya : List qb) : Nat → (List qb) → Int → qN (List qb)
  | 0, _, _ => .fail
  | k + 1, Yc, Yb =>
    cond (decide ((ql (Yb + (1 : Int))) < (Ya.length : Int)))
      (
      chk (inb Yb Ya.length) <|
      chk (inb (ql (Yb + (1 : Int))) Ya.length) <|
      (qp.m K ([(rd Ya Yb).symbols_, (rd Ya (ql (Yb + (1 : Int)))).symbols_] : List (List Int))).bind fun Yd =>
      chk (room (Yc.length + ([(qb.mk (ql ((rd Ya Yb).often_ + (rd Ya (ql (Yb + (1 : Int)))).often_)) Yd)] : List qb).length) 32) <|
      lt (Yc ++ ([(qb.mk (ql ((rd Ya Yb).often_ + (rd Ya (ql (Yb + (1 : Int)))).often_)) Yd)] : List qb)) fun (Ye : (List qb)) =>
      lt ((ql (Yb + (2 : Int)))) fun (Yf : Int) =>
      zq.l1 K Ya k Ye Yf)
      (
      .ok Yc)
def zq.m (K : Nat) (Ya : List qb) : qN (List qb) :=
  zq.l1 K Ya K ([] : List qb) (0 : Int)
def qL.m (K : Nat) (Yb : Int) : qN Unit :=
  cond (decide (Yb < (0 : Int)))
    (
    .pan (.iface yy (yF ([99, 97, 110, 110, 111, 116, 32, 98, 101, 32, 110, 101, 103, 97, 116, 105, 118, 101] : List UInt8))))
    (
    lt ((ql (Yb - (ql ((0 : Int) - (0 : Int)))))) fun (Ya : Int) =>
    cond (decide (Ya > (0 : Int)))
      (
      chk (decide ((0 : Int) < Ya) && room (Int.toNat Ya) 32) <|
      .ok ())
      (
      .ok ()))
def qi.l3 (K : Nat) (Ya : List (List qb)) : Nat → (List qb) → Int → qN (List qb)
  | 0, _, _ => .fail
  | k + 1, Yb, Yc =>
    cond (decide (Yc < (Ya.length : Int)))
      (
      chk (inb Yc Ya.length) <|
      chk (room (Yb.length + (rd Ya Yc).length) 32) <|
      lt (Yb ++ (rd Ya Yc)) fun (Yd : (List qb)) =>
      qi.l3 K Ya k Yd (ql (Yc + (1 : Int))))
      (
      .ok Yb)
def qi.j2 (K : Nat) (Ya : List (List qb)) (Yb : Int) : qN (List qb) :=
  (qL.m K Yb).bind fun _ =>
  qi.l3 K Ya K ([] : List qb) (0 : Int)
def qi.l1 (K : Nat) (Ya : List (List qb)) : Nat → Int → Int → qN (List qb)
  | 0, _, _ => .fail
  | k + 1, Yb, Yd =>
    cond (decide (Yd < (Ya.length : Int)))
      (
      chk (inb Yd Ya.length) <|
      lt ((ql (Yb + ((rd Ya Yd).length : Int)))) fun (Yc : Int) =>
      cond (decide (Yc < (0 : Int)))
        (
        .pan (.iface yy (yF ([108, 101, 110, 32, 111, 117, 116, 32, 111, 102, 32, 114, 97, 110, 103, 101] : List UInt8))))
        (
        qi.l1 K Ya k Yc (ql (Yd + (1 : Int)))))
      (
      qi.j2 K Ya Yb)
def qi.m (K : Nat) (Ya : List (List qb)) : qN (List qb) :=
  qi.l1 K Ya K (0 : Int) (0 : Int)
def zN.m (K : Nat) (Ya : List qb) (Yb : List qb) : qN (List qb) :=
  (qi.m K ([Ya, Yb] : List (List qb))).bind fun Yc =>
  (qq.m K Yc).bind fun Yd =>
  .ok Yd
def qk.l8 (K : Nat) (g7 : (List Int) → Int → qN ((List Int) × Int)) (Yb : (List qb)) (Yc : Int) : Nat → (List Int) → Int → qN ((List Int) × Int)
  | 0, _, _ => .fail
  | k + 1, Ya, Yd =>
    cond (decide (Yd < (((rd Yb Yc).symbols_).length : Int)))
      (
      chk (inb Yd ((rd Yb Yc).symbols_).length) <|
      lt ((rd ((rd Yb Yc).symbols_) Yd)) fun (Ye : Int) =>
      chk (inb Ye Ya.length) <|
      lt (Ya.set (Int.toNat Ye) (ql ((rd Ya Ye) + (1 : Int)))) fun (Yf : (List Int)) =>
      qk.l8 K g7 Yb Yc k Yf (ql (Yd + (1 : Int))))
      (
      g7 Ya (ql (Yc + (1 : Int))))
def qk.l7 (K : Nat) (Ya : (List qb)) : Nat → (List Int) → Int → qN ((List Int) × Int)
  | 0, _, _ => .fail
  | k + 1, Yb, Yc =>
    cond (decide (Yc < (Ya.length : Int)))
      (
      chk (inb Yc Ya.length) <|
      qk.l8 K (qk.l7 K Ya k) Ya Yc K Yb (0 : Int))
      (
      .ok (Yb, (0 : Int)))
def qk.j6 (K : Nat) (Yc : (List Int)) (Yb : (List qb)) (Ya : (List qb)) : qN ((List Int) × Int) :=
  chk (subok (0 : Int) (ql ((ql ((2 : Int) * (Yb.length : Int))) - (2 : Int))) Ya.length) <|
  lt (sub Ya (0 : Int) (ql ((ql ((2 : Int) * (Yb.length : Int))) - (2 : Int)))) fun (Yd : (List qb)) =>
  qk.l7 K Yd K Yc (0 : Int)
def qk.l5 (K : Nat) (Ya : Int) (Yc : (List Int)) (Yd : (List qb)) : Nat → (List qb) → Int → qN ((List Int) × Int)
  | 0, _, _ => .fail
  | k + 1, Yb, Ye =>
    cond (decide (Ye < (ql (Ya - (1 : Int)))))
      (
      (zq.m K Yb).bind fun Yf =>
      (zN.m K Yd Yf).bind fun Yg =>
      qk.l5 K Ya Yc Yd k Yg (ql (Ye + (1 : Int))))
      (
      qk.j6 K Yc Yd Yb)
def qk.j4 (K : Nat) (Yc : Int) (Ya : (List qb)) (Yb : (List Int)) : qN ((List Int) × Int) :=
  cond (decide ((Ya.length : Int) < (2 : Int)))
    (
    .ok (Yb, (0 : Int)))
    (
    (qq.m K Ya).bind fun Yd =>
    qk.l5 K Yc Yb Yd K Yd (0 : Int))
def qk.j3 (K : Nat) (Yc : List Int) (Yb : Int) (Ya : (List qb)) : qN ((List Int) × Int) :=
  chk (decide (0 ≤ Yb)) <|
  cond (decide ((Ya.length : Int) > (xn .i64 (1 : Int) Yb)))
    (
    .ok (([] : List Int), (1 : Int)))
    (
    chk (decide (0 ≤ (Yc.length : Int)) && room (Int.toNat (Yc.length : Int)) 8) <|
    lt (List.replicate (Int.toNat (Yc.length : Int)) (0 : Int)) fun (Yd : (List Int)) =>
    cond ((Ya.length : Int) == (1 : Int))
      (
      chk (inb (0 : Int) Ya.length) <|
      chk (inb (0 : Int) ((rd Ya (0 : Int)).symbols_).length) <|
      chk (inb (rd ((rd Ya (0 : Int)).symbols_) (0 : Int)) Yd.length) <|
      lt (Yd.set (Int.toNat (rd ((rd Ya (0 : Int)).symbols_) (0 : Int))) (1 : Int)) fun (Ye : (List Int)) =>
      qk.j4 K Yb Ya Ye)
      (
      qk.j4 K Yb Ya Yd))
def qk.l2 (K : Nat) (Ya : List Int) (Yc : Int) : Nat → (List qb) → Int → qN ((List Int) × Int)
  | 0, _, _ => .fail
  | k + 1, Yb, Yd =>
    cond (decide (Yd < (Ya.length : Int)))
      (
      chk (inb Yd Ya.length) <|
      lt ((rd Ya Yd)) fun (Ye : Int) =>
      cond (decide (Ye > (0 : Int)))
        (
        chk (room (Yb.length + ([(qb.mk Ye ([Yd] : List Int))] : List qb).length) 32) <|
        lt (Yb ++ ([(qb.mk Ye ([Yd] : List Int))] : List qb)) fun (Yf : (List qb)) =>
        qk.l2 K Ya Yc k Yf (ql (Yd + (1 : Int))))
        (
        qk.l2 K Ya Yc k Yb (ql (Yd + (1 : Int)))))
      (
      qk.j3 K Ya Yc Yb)
def qk.j1 (K : Nat) (Ya : List Int) (Yb : Int) (Yc : Bool) : qN ((List Int) × Int) :=
  cond Yc
    (
    .ok (([] : List Int), (1 : Int)))
    (
    qk.l2 K Ya Yb K ([] : List qb) (0 : Int))
def qk.m (K : Nat) (Ya : List Int) (Yb : Int) : qN ((List Int) × Int) :=
  cond (((decide (Yb < (1 : Int))) || (decide (Yb > (15 : Int)))) || (decide ((Ya.length : Int) > (320 : Int))))
    (
    qk.j1 K Ya Yb true)
    (
    (qV.m K Ya).bind fun Yc =>
    qk.j1 K Ya Yb Yc)
def js.m (K : Nat) (Ya : List UInt8) : qN Unit :=
  .ok ()
def q8.j2 (K : Nat) (Yb : qM) (Ya : Int) (Yc : Int) : qN (Int × Int × Int) :=
  chk (decide (0 ≤ (ub .i64 Yb.place_.at_ (7 : Int)))) <|
  lt ((yk .u64 Yc (ub .i64 Yb.place_.at_ (7 : Int)))) fun (Yd : Int) =>
  chk (decide (0 ≤ Ya)) <|
  lt ((wr .u32 (ub .u64 Yd (wr .u64 ((xn .u64 (1 : Int) Ya) - (1 : Int)))))) fun (Ye : Int) =>
  .ok (Ye, (0 : Int), (ql (Yb.place_.at_ + Ya)))
def q8.l1 (K : Nat) (Yc : qM) (Yd : Int) (Ya : Int) : Nat → Int → Int → qN (Int × Int × Int)
  | 0, _, _ => .fail
  | k + 1, Ye, Yb =>
    cond (decide ((ql ((8 : Int) * (ql (Ya + Yb)))) < (ql (Yc.place_.at_ + Yd))))
      (
      chk (inb (ql (Ya + Yb)) Yc.text_.length) <|
      chk (decide (0 ≤ (ql ((8 : Int) * Yb)))) <|
      lt ((ZG .u64 Ye (xn .u64 (wr .u64 ((rd Yc.text_ (ql (Ya + Yb))).toNat : Int)) (ql ((8 : Int) * Yb))))) fun (Yg : Int) =>
      lt ((ql (Yb + (1 : Int)))) fun (Yf : Int) =>
      q8.l1 K Yc Yd Ya k Yg Yf)
      (
      q8.j2 K Yc Yd Ye)
def q8.m (K : Nat) (Ya : qM) (Yb : Int) : qN (Int × Int × Int) :=
  lt (((decide (Yb < (0 : Int))) || (decide (Yb > (32 : Int))))) fun (Yd : Bool) =>
  cond Yd
    (
    .ok ((0 : Int), (1 : Int), Ya.place_.at_))
    (
    lt ((decide (Yb > (ql ((ql ((8 : Int) * (Ya.text_.length : Int))) - Ya.place_.at_))))) fun (Ye : Bool) =>
    cond Ye
      (
      .ok ((0 : Int), (2 : Int), Ya.place_.at_))
      (
      lt ((QX .i64 Ya.place_.at_ (8 : Int))) fun (Yc : Int) =>
      q8.l1 K Ya Yb Yc K (0 : Int) (0 : Int)))
def q9.j2 (K : Nat) (Ya : qM) (Yb : Int) : qN (Int × Int × Int) :=
  .ok ((0 : Int), (3 : Int), Ya.place_.at_)
def q9.l1 (K : Nat) (Yd : zg) (Yj : qM) : Nat → Int → Int → Int → Int → Int → qN (Int × Int × Int)
  | 0, _, _, _, _, _ => .fail
  | k + 1, Yh, Ym, Yk, Ya, Yf =>
    cond (decide (Ya < (Yd.symbols_.length : Int)))
      (
      (q8.m K (qM.mk (zp.mk Yh) Yj.text_) (1 : Int)).bind fun (Yq, Yn, Yi) =>
      cond (Yn != (0 : Int))
        (
        .ok ((0 : Int), Yn, Yj.place_.at_))
        (
        lt ((ZG .i64 (xn .i64 Ym (1 : Int)) (wr .i64 Yq))) fun (Yc : Int) =>
        lt ((xn .i64 Yk (1 : Int))) fun (Yb : Int) =>
        chk (inb Yf 16) <|
        lt ((rd Yd.counts_ Yf)) fun (Ye : Int) =>
        cond (decide ((ql (Yc - Yb)) < Ye))
          (
          chk (inb (ql ((ql (Ya + Yc)) - Yb)) Yd.symbols_.length) <|
          lt ((rd Yd.symbols_ (ql ((ql (Ya + Yc)) - Yb)))) fun (Yp : Int) =>
          .ok (Yp, (0 : Int), Yi))
          (
          lt ((ql (Yb + Ye))) fun (Yl : Int) =>
          lt ((ql (Ya + Ye))) fun (Yg : Int) =>
          lt ((ql (Yf + (1 : Int)))) fun (Yo : Int) =>
          q9.l1 K Yd Yj k Yi Yc Yl Yg Yo)))
      (
      q9.j2 K Yj Yh)
def q9.m (K : Nat) (Yb : zg) (Ya : qM) : qN (Int × Int × Int) :=
  q9.l1 K Yb Ya K Ya.place_.at_ (0 : Int) (0 : Int) (0 : Int) (1 : Int)
def xH.m (K : Nat) (Ya : qM) : qN Unit :=
  .ok ()
def qH.j2 (K : Nat)  (Ya : Bool) : qN Bool :=
  .ok Ya
def qH.j1 (K : Nat) (Yc : Int) (Yd : Int) (Ye : Int) (Yf : Int) (Ya : Int) (Yb : Bool) : qN Bool :=
  cond ((((Yb && (Yc == (0 : Int))) && (Yd == (0 : Int))) && (Ye == (0 : Int))) && (Yf == (0 : Int)))
    (
    (xH.m K (qM.mk (zp.mk Ya) ([5] : List UInt8))).bind fun _ =>
    qH.j2 K (Ya == (4 : Int)))
    (
    qH.j2 K false)
def qH.m (K : Nat) : qN Bool :=
  (zQ.m K ([(2 : Int), (1 : Int), (3 : Int), (3 : Int)] : List Int)).bind fun (Yo, Yk) =>
  (zx.m K ([(2 : Int), (1 : Int), (3 : Int), (3 : Int)] : List Int)).bind fun (Yn, Yl) =>
  (qk.m K ([(1 : Int), (1 : Int), (2 : Int), (4 : Int)] : List Int) (15 : Int)).bind fun (Ya, Yc) =>
  (js.m K ([5] : List UInt8)).bind fun _ =>
  cond (Yn.isNone || false)
    (
    .ok false)
    (
    Xz Yn fun Yf =>
    (q9.m K Yf (qM.mk (zp.mk (0 : Int)) ([5] : List UInt8))).bind fun (Yg, Yh, Ye) =>
    (q9.m K Yf (qM.mk (zp.mk Ye) ([5] : List UInt8))).bind fun (Yi, Yj, Yb) =>
    (qF.m K Yo ([(2 : Int), (0 : Int), (6 : Int), (7 : Int)] : List Int)).bind fun Yd =>
    chk (Xc true ((((Yd && (Yk == (0 : Int))) && (Yl == (0 : Int))) && (Yc == (0 : Int))) && ((Ya.length : Int) == (4 : Int))) (inb (3 : Int) Ya.length)) <|
    chk (Xc true (((((Yd && (Yk == (0 : Int))) && (Yl == (0 : Int))) && (Yc == (0 : Int))) && ((Ya.length : Int) == (4 : Int))) && ((rd Ya (3 : Int)) == (1 : Int))) (inb (2 : Int) Ya.length)) <|
    cond ((((((Yd && (Yk == (0 : Int))) && (Yl == (0 : Int))) && (Yc == (0 : Int))) && ((Ya.length : Int) == (4 : Int))) && ((rd Ya (3 : Int)) == (1 : Int))) && ((rd Ya (2 : Int)) == (2 : Int)))
      (
      (zt.m K ([(1 : Int), (1 : Int), (1 : Int)] : List Int)).bind fun Ym =>
      qH.j1 K Yg Yh Yi Yj Yb (Ym == (3 : Int)))
      (
      qH.j1 K Yg Yh Yi Yj Yb false))
def qC.j2 (K : Nat) (Ya : Int) (Yb : Int) : qN Bool :=
  chk (decide (0 ≤ (wr .u64 Ya))) <|
  lt ((decide (Yb ≤ (xn .i64 (1 : Int) (wr .u64 Ya))))) fun (Yc : Bool) =>
  .ok Yc
def qC.l1 (K : Nat) (Ya : List Int) (Yc : Int) : Nat → Int → Int → qN Bool
  | 0, _, _ => .fail
  | k + 1, Yd, Yb =>
    cond (decide (Yb < (Ya.length : Int)))
      (
      chk (inb Yb Ya.length) <|
      cond ((decide ((rd Ya Yb) < (0 : Int))) || (decide ((rd Ya Yb) > (1099511627776 : Int))))
        (
        .ok false)
        (
        cond (decide ((rd Ya Yb) > (0 : Int)))
          (
          lt ((ql (Yd + (1 : Int)))) fun (Ye : Int) =>
          lt ((ql (Yb + (1 : Int)))) fun (Yf : Int) =>
          qC.l1 K Ya Yc k Ye Yf)
          (
          lt ((ql (Yb + (1 : Int)))) fun (Yg : Int) =>
          qC.l1 K Ya Yc k Yd Yg)))
      (
      qC.j2 K Yc Yd)
def qC.m (K : Nat) (Yb : List Int) (Ya : Int) : qN Bool :=
  cond (((decide (Ya < (1 : Int))) || (decide (Ya > (15 : Int)))) || (decide ((Yb.length : Int) > (320 : Int))))
    (
    .ok false)
    (
    qC.l1 K Yb Ya K (0 : Int) (0 : Int))
def qe.j6 (K : Nat) (g5 : (List Int) → Int → qN Int) (Yh : List Int) (Yd : (List Int)) (Yj : Int) (Yc : Int) (Yb : (List Int)) (Ya : Int) (Ye : Int) (Yk : Bool) : qN Int :=
  cond Yk
    (
    chk (inb (ql (Yc - Ye)) Yd.length) <|
    chk (inb Yc Yb.length) <|
    lt (Yb.set (Int.toNat Yc) (ql ((rd Yd (ql (Yc - Ye))) + (ql ((rd Yh Yj) * Ya))))) fun (Yi : (List Int)) =>
    lt ((ql (Ya + (1 : Int)))) fun (Yf : Int) =>
    g5 Yi Yf)
    (
    lt ((ql (Ya + (1 : Int)))) fun (Yg : Int) =>
    g5 Yb Yg)
def qe.l5 (K : Nat) (g4 : (List Int) → Int → qN Int) (Yd : List Int) (Yf : Int) (Yb : (List Int)) (Yh : Int) (Yc : Int) : Nat → (List Int) → Int → qN Int
  | 0, _, _ => .fail
  | k + 1, Yg, Ya =>
    cond (decide (Ya ≤ Yf))
      (
      chk (decide (0 ≤ (wr .u64 (ql (Yf - Ya))))) <|
      lt ((xn .i64 (1 : Int) (wr .u64 (ql (Yf - Ya))))) fun (Ye : Int) =>
      cond (decide (Ye ≤ Yc))
        (
        chk (inb (ql (Yc - Ye)) Yb.length) <|
        cond (decide ((rd Yb (ql (Yc - Ye))) < (4611686018427387904 : Int)))
          (
          chk (inb Yc Yg.length) <|
          qe.j6 K (qe.l5 K g4 Yd Yf Yb Yh Yc k) Yd Yb Yh Yc Yg Ya Ye (decide ((ql ((rd Yb (ql (Yc - Ye))) + (ql ((rd Yd Yh) * Ya)))) < (rd Yg Yc))))
          (
          qe.j6 K (qe.l5 K g4 Yd Yf Yb Yh Yc k) Yd Yb Yh Yc Yg Ya Ye false))
        (
        qe.j6 K (qe.l5 K g4 Yd Yf Yb Yh Yc k) Yd Yb Yh Yc Yg Ya Ye false))
      (
      lt ((ql (Yc + (1 : Int)))) fun (Yi : Int) =>
      g4 Yg Yi)
def qe.l4 (K : Nat) (g3 : (List Int) → Int → qN Int) (Yb : List Int) (Ye : Int) (Yf : Int) (Yd : (List Int)) (Yg : Int) : Nat → (List Int) → Int → qN Int
  | 0, _, _ => .fail
  | k + 1, Ya, Yc =>
    cond (decide (Yc ≤ Yf))
      (
      chk (inb Yc Ya.length) <|
      lt (Ya.set (Int.toNat Yc) (4611686018427387904 : Int)) fun (Yh : (List Int)) =>
      qe.l5 K (qe.l4 K g3 Yb Ye Yf Yd Yg k) Yb Ye Yd Yg Yc K Yh (1 : Int))
      (
      lt ((ql (Yg + (1 : Int)))) fun (Yi : Int) =>
      g3 Ya Yi)
def qe.l8 (K : Nat) (Yd : Int) (Ya : (List Int)) : Nat → Int → Int → qN Int
  | 0, _, _ => .fail
  | k + 1, Yc, Yb =>
    cond (decide (Yb ≤ Yd))
      (
      chk (inb Yb Ya.length) <|
      lt ((if (rd Ya Yb) < Yc then (rd Ya Yb) else Yc)) fun (Ye : Int) =>
      lt ((ql (Yb + (1 : Int)))) fun (Yf : Int) =>
      qe.l8 K Yd Ya k Ye Yf)
      (
      .ok Yc)
def qe.j7 (K : Nat) (Yb : Int) (Ya : (List Int)) : qN Int :=
  chk (inb (0 : Int) Ya.length) <|
  lt ((rd Ya (0 : Int))) fun (Yc : Int) =>
  qe.l8 K Yb Ya K Yc (1 : Int)
def qe.l3 (K : Nat) (Ya : List Int) (Yd : Int) (Yb : Int) : Nat → (List Int) → Int → qN Int
  | 0, _, _ => .fail
  | k + 1, Yc, Ye =>
    cond (decide (Ye < (Ya.length : Int)))
      (
      chk (inb Ye Ya.length) <|
      cond ((rd Ya Ye) == (0 : Int))
        (
        lt ((ql (Ye + (1 : Int)))) fun (Yg : Int) =>
        qe.l3 K Ya Yd Yb k Yc Yg)
        (
        chk (decide (0 ≤ (ql (Yb + (1 : Int)))) && room (Int.toNat (ql (Yb + (1 : Int)))) 8) <|
        lt (List.replicate (Int.toNat (ql (Yb + (1 : Int)))) (0 : Int)) fun (Yf : (List Int)) =>
        qe.l4 K (qe.l3 K Ya Yd Yb k) Ya Yd Yb Yc Ye K Yf (0 : Int)))
      (
      qe.j7 K Yb Yc)
def qe.j2 (K : Nat) (Ya : List Int) (Yc : Int) (Yd : Int) (Yb : (List Int)) : qN Int :=
  qe.l3 K Ya Yc Yd K Yb (0 : Int)
def qe.l1 (K : Nat) (Yc : List Int) (Ye : Int) (Yb : Int) : Nat → (List Int) → Int → qN Int
  | 0, _, _ => .fail
  | k + 1, Ya, Yd =>
    cond (decide (Yd ≤ Yb))
      (
      chk (inb Yd Ya.length) <|
      lt (Ya.set (Int.toNat Yd) (4611686018427387904 : Int)) fun (Yg : (List Int)) =>
      lt ((ql (Yd + (1 : Int)))) fun (Yf : Int) =>
      qe.l1 K Yc Ye Yb k Yg Yf)
      (
      qe.j2 K Yc Ye Yb Ya)
def qe.m (K : Nat) (Yc : List Int) (Yb : Int) : qN Int :=
  chk (decide (0 ≤ (wr .u64 Yb))) <|
  lt ((xn .i64 (1 : Int) (wr .u64 Yb))) fun (Ya : Int) =>
  chk (decide (0 ≤ (ql (Ya + (1 : Int)))) && room (Int.toNat (ql (Ya + (1 : Int)))) 8) <|
  lt (List.replicate (Int.toNat (ql (Ya + (1 : Int)))) (0 : Int)) fun (Yd : (List Int)) =>
  qe.l1 K Yc Yb Ya K Yd (1 : Int)
def qg.j2 (K : Nat)  (Ya : Bool) : qN Bool :=
  .ok Ya
def qg.j5 (K : Nat) (g4 : Int → Int → qN Bool) (Ya : List Int) (Ye : (List Int)) (Yc : Int) (Yb : Int) (Yg : Bool) : qN Bool :=
  cond Yg
    (
    .ok false)
    (
    chk (inb Yb Ye.length) <|
    chk (inb Yb Ya.length) <|
    lt ((ql (Yc + (ql ((rd Ye Yb) * (rd Ya Yb)))))) fun (Yd : Int) =>
    lt ((ql (Yb + (1 : Int)))) fun (Yf : Int) =>
    g4 Yd Yf)
def qg.j7 (K : Nat)  (Ya : Bool) : qN Bool :=
  .ok Ya
def qg.j6 (K : Nat) (Ya : List Int) (Yb : Int) (Yc : Int) : qN Bool :=
  (qe.m K Ya Yb).bind fun Yd =>
  cond (Yc == Yd)
    (
    (qH.m K).bind fun Ye =>
    qg.j7 K Ye)
    (
    qg.j7 K false)
def qg.l4 (K : Nat) (Ya : List Int) (Yb : Int) (Yd : (List Int)) : Nat → Int → Int → qN Bool
  | 0, _, _ => .fail
  | k + 1, Ye, Yc =>
    cond (decide (Yc < (Yd.length : Int)))
      (
      chk (inb Yc Yd.length) <|
      cond (decide ((rd Yd Yc) > Yb))
        (
        qg.j5 K (qg.l4 K Ya Yb Yd k) Ya Yd Ye Yc true)
        (
        chk (inb Yc Ya.length) <|
        qg.j5 K (qg.l4 K Ya Yb Yd k) Ya Yd Ye Yc (!(((rd Yd Yc) == (0 : Int)) == ((rd Ya Yc) == (0 : Int))))))
      (
      qg.j6 K Ya Yb Ye)
def qg.j3 (K : Nat) (Ya : List Int) (Yb : Int) (Yd : (List Int)) (Yc : Bool) : qN Bool :=
  cond Yc
    (
    .ok false)
    (
    qg.l4 K Ya Yb Yd K (0 : Int) (0 : Int))
def qg.j1 (K : Nat) (Ya : List Int) (Yb : Int) (Yc : (List Int)) (Yd : Int) (Ye : Bool) : qN Bool :=
  cond Ye
    (
    .ok false)
    (
    cond (Yd != (0 : Int))
      (
      cond ((Yd == (1 : Int)) && ((Yc.length : Int) == (0 : Int)))
        (
        (qH.m K).bind fun Yf =>
        qg.j2 K Yf)
        (
        qg.j2 K false))
      (
      cond ((Yc.length : Int) != (Ya.length : Int))
        (
        qg.j3 K Ya Yb Yc true)
        (
        (qn.m K Yc).bind fun Yg =>
        qg.j3 K Ya Yb Yc (Yg != (0 : Int)))))
def qg.m (K : Nat) (Ya : List Int) (Yb : Int) : qN Bool :=
  cond ((decide ((Ya.length : Int) > (30 : Int))) || (decide (Yb > (8 : Int))))
    (
    (qH.m K).bind fun Yf =>
    .ok Yf)
    (
    chk (room (([] : List Int).length + Ya.length) 8) <|
    lt (([] : List Int) ++ Ya) fun (Yd : (List Int)) =>
    (qk.m K Yd Yb).bind fun (Ye, Yc) =>
    (qF.m K Yd Ya).bind fun Yg =>
    cond (!Yg)
      (
      qg.j1 K Ya Yb Ye Yc true)
      (
      (qC.m K Ya Yb).bind fun Yh =>
      qg.j1 K Ya Yb Ye Yc (!((Yc == (0 : Int)) == Yh))))
end Go.Mo
