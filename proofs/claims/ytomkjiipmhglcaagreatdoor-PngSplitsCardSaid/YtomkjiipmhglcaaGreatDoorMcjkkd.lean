/- Models of the Go functions that this statement reaches, printed by a program of mine: nothing is proved but lengths of tables. -/
import Derived.Test.YtomkjiipmhglcaaGreatDoorOwnllhmh
set_option linter.unusedVariables false
set_option linter.unusedSimpArgs false
namespace Go.Mo
open Go Go.Sl
structure xk where
  W_ : Int
  H_ : Int
  Samples_ : Int
  Pixels_ : List UInt8
  deriving Inhabited
structure yq where
  kind_ : Int
  samples_ : Int
  deriving Inhabited
structure qH where
  Lit_ : Int
  Len_ : Int
  Dist_ : Int
  deriving Inhabited
structure z2 where
  text_ : List UInt8
  seen_ : (List ((List Int) × (List Int)))
  deriving Inhabited
structure qs where
  at_ : Int
  deriving Inhabited
structure qQ where
  place_ : qs
  bytes_ : (List Int)
  deriving Inhabited
structure qy where
  lengths_ : (List Int)
  codes_ : (List Int)
  deriving Inhabited
structure qr where
  Writer_ : qQ
  literals_ : qy
  distances_ : qy
  deriving Inhabited
structure xr where
  symbol_ : Int
  bits_ : Int
  more_ : Int
  deriving Inhabited
structure qb where
  often_ : Int
  symbols_ : (List Int)
  deriving Inhabited
structure ql where
  symbol_ : Int
  more_ : Int
  bits_ : Int
  deriving Inhabited
structure qd where
  Type_ : List UInt8
  Data_ : List UInt8
  deriving Inhabited
structure ze where
  text_ : List UInt8
  base_ : Int
  deriving Inhabited
structure qE where
  place_ : qs
  text_ : List UInt8
  deriving Inhabited
structure qw where
  Reader_ : qE
  out_ : (List Int)
  limit_ : Int
  deriving Inhabited
structure qF where
  counts_ : (List Int)
  symbols_ : (List Int)
  deriving Inhabited
structure xc where
  from_ : Int
  bits_ : Int
  deriving Inhabited
structure vM where
  S_ : List UInt8
  At_ : Int
  deriving Inhabited
structure ZK where
  r_ : vM
  out_ : (List Int)
  limit_ : Int
  deriving Inhabited
structure Xh where
  l_ : (List Int)
  codes_ : (List Int)
  deriving Inhabited
abbrev v9 : TypeId := 9
abbrev x8 : TypeId := 98
def tab_png_colors : List yq := [⟨0, 1⟩, ⟨2, 3⟩, ⟨6, 4⟩]
theorem jZ : tab_png_colors.length = 3 := by decide
def tab_sums_half : List Int := [0, 498536548, 997073096, 651767980, 1994146192, 1802195444, 1303535960, 1342533948, 3988292384, 4027552580, 3604390888, 3412177804, 2607071920, 2262029012, 2685067896, 3183342108]
def tab_deflate_order : List Int := [16, 17, 18, 0, 8, 7, 9, 6, 10, 5, 11, 4, 12, 3, 13, 2, 14, 1, 15]
theorem vO : tab_deflate_order.length = 19 := by decide
def tab_inflate_lengths : List xc := [⟨3, 0⟩, ⟨4, 0⟩, ⟨5, 0⟩, ⟨6, 0⟩, ⟨7, 0⟩, ⟨8, 0⟩, ⟨9, 0⟩, ⟨10, 0⟩, ⟨11, 1⟩, ⟨13, 1⟩, ⟨15, 1⟩, ⟨17, 1⟩, ⟨19, 2⟩, ⟨23, 2⟩, ⟨27, 2⟩, ⟨31, 2⟩, ⟨35, 3⟩, ⟨43, 3⟩, ⟨51, 3⟩, ⟨59, 3⟩, ⟨67, 4⟩, ⟨83, 4⟩, ⟨99, 4⟩, ⟨115, 4⟩, ⟨131, 5⟩, ⟨163, 5⟩, ⟨195, 5⟩, ⟨227, 5⟩, ⟨258, 0⟩]
def tab_inflate_distances : List xc := [⟨1, 0⟩, ⟨2, 0⟩, ⟨3, 0⟩, ⟨4, 0⟩, ⟨5, 1⟩, ⟨7, 1⟩, ⟨9, 2⟩, ⟨13, 2⟩, ⟨17, 3⟩, ⟨25, 3⟩, ⟨33, 4⟩, ⟨49, 4⟩, ⟨65, 5⟩, ⟨97, 5⟩, ⟨129, 6⟩, ⟨193, 6⟩, ⟨257, 7⟩, ⟨385, 7⟩, ⟨513, 8⟩, ⟨769, 8⟩, ⟨1025, 9⟩, ⟨1537, 9⟩, ⟨2049, 10⟩, ⟨3073, 10⟩, ⟨4097, 11⟩, ⟨6145, 11⟩, ⟨8193, 12⟩, ⟨12289, 12⟩, ⟨16385, 13⟩, ⟨24577, 13⟩]
def tab_inflate_order : List Int := [16, 17, 18, 0, 8, 7, 9, 6, 10, 5, 11, 4, 12, 3, 13, 2, 14, 1, 15]
theorem vP : tab_inflate_order.length = 19 := by decide
def xK.j3 (K : Nat) (VO : xk) (VP : Bool) : q7 Bool :=
  lt (((VP && (decide ((qi ((qi (VO.W_ * VO.H_)) * VO.Samples_)) ≤ (16777216 : Int)))) && ((VO.Pixels_.length : Int) == (qi ((qi (VO.W_ * VO.H_)) * VO.Samples_))))) fun (VQ : Bool) =>
  .ok VQ
def xK.j2 (K : Nat) (VO : xk) (VP : Bool) : q7 Bool :=
  xK.j3 K VO VP
def xK.j1 (K : Nat) (VO : xk) (VP : Bool) : q7 Bool :=
  cond VP
    (
    xK.j2 K VO true)
    (
    xK.j2 K VO (VO.Samples_ == (4 : Int)))
def xK.m (K : Nat) (VO : xk) : q7 Bool :=
  lt (((((decide (VO.W_ ≥ (1 : Int))) && (decide (VO.W_ ≤ (4096 : Int)))) && (decide (VO.H_ ≥ (1 : Int)))) && (decide (VO.H_ ≤ (4096 : Int))))) fun (VP : Bool) =>
  cond VP
    (
    cond (VO.Samples_ == (1 : Int))
      (
      xK.j1 K VO true)
      (
      xK.j1 K VO (VO.Samples_ == (3 : Int))))
    (
    xK.j3 K VO false)
def x7.m (K : Nat) (VO : (List Int)) (VP : Int) : q7 (List Int) :=
  zK (room (VO.length + ([VP] : List Int).length) 1) <|
  lt (VO ++ ([VP] : List Int)) fun (VQ : (List Int)) =>
  .ok VQ
def zQ.m (K : Nat) (VO : (List Int)) (VQ : List UInt8) : q7 (Int × (List Int)) :=
  zK (room (VO.length + VQ.length) 1) <|
  lt (VO ++ VQ.map X1) fun (VP : (List Int)) =>
  lt ((VQ.length : Int)) fun (VR : Int) =>
  .ok (VR, VP)
def jv.m (K : Nat) (VO : Int) : q7 Bool :=
  lt ((((decide (VO > (0 : Int))) && (decide (VO ≤ (8 : Int)))) && ((xi .i64 VO (qi (VO - (1 : Int)))) == (0 : Int)))) fun (VP : Bool) =>
  .ok VP
def zC.j3 (K : Nat)  (VQ : Int) (VO : Int) : q7 Int :=
  zK (inb (wr .u8 VQ) ([0, 1, 2, 2, 3, 3, 3, 3, 4, 4, 4, 4, 4, 4, 4, 4, 5, 5, 5, 5, 5, 5, 5, 5, 5, 5, 5, 5, 5, 5, 5, 5, 6, 6, 6, 6, 6, 6, 6, 6, 6, 6, 6, 6, 6, 6, 6, 6, 6, 6, 6, 6, 6, 6, 6, 6, 6, 6, 6, 6, 6, 6, 6, 6, 7, 7, 7, 7, 7, 7, 7, 7, 7, 7, 7, 7, 7, 7, 7, 7, 7, 7, 7, 7, 7, 7, 7, 7, 7, 7, 7, 7, 7, 7, 7, 7, 7, 7, 7, 7, 7, 7, 7, 7, 7, 7, 7, 7, 7, 7, 7, 7, 7, 7, 7, 7, 7, 7, 7, 7, 7, 7, 7, 7, 7, 7, 7, 7, 8, 8, 8, 8, 8, 8, 8, 8, 8, 8, 8, 8, 8, 8, 8, 8, 8, 8, 8, 8, 8, 8, 8, 8, 8, 8, 8, 8, 8, 8, 8, 8, 8, 8, 8, 8, 8, 8, 8, 8, 8, 8, 8, 8, 8, 8, 8, 8, 8, 8, 8, 8, 8, 8, 8, 8, 8, 8, 8, 8, 8, 8, 8, 8, 8, 8, 8, 8, 8, 8, 8, 8, 8, 8, 8, 8, 8, 8, 8, 8, 8, 8, 8, 8, 8, 8, 8, 8, 8, 8, 8, 8, 8, 8, 8, 8, 8, 8, 8, 8, 8, 8, 8, 8, 8, 8, 8, 8, 8, 8, 8, 8, 8, 8, 8, 8, 8, 8, 8, 8, 8, 8, 8, 8, 8, 8, 8, 8] : List UInt8).length) <|
  lt ((qi (VO + (wr .i64 ((rd ([0, 1, 2, 2, 3, 3, 3, 3, 4, 4, 4, 4, 4, 4, 4, 4, 5, 5, 5, 5, 5, 5, 5, 5, 5, 5, 5, 5, 5, 5, 5, 5, 6, 6, 6, 6, 6, 6, 6, 6, 6, 6, 6, 6, 6, 6, 6, 6, 6, 6, 6, 6, 6, 6, 6, 6, 6, 6, 6, 6, 6, 6, 6, 6, 7, 7, 7, 7, 7, 7, 7, 7, 7, 7, 7, 7, 7, 7, 7, 7, 7, 7, 7, 7, 7, 7, 7, 7, 7, 7, 7, 7, 7, 7, 7, 7, 7, 7, 7, 7, 7, 7, 7, 7, 7, 7, 7, 7, 7, 7, 7, 7, 7, 7, 7, 7, 7, 7, 7, 7, 7, 7, 7, 7, 7, 7, 7, 7, 8, 8, 8, 8, 8, 8, 8, 8, 8, 8, 8, 8, 8, 8, 8, 8, 8, 8, 8, 8, 8, 8, 8, 8, 8, 8, 8, 8, 8, 8, 8, 8, 8, 8, 8, 8, 8, 8, 8, 8, 8, 8, 8, 8, 8, 8, 8, 8, 8, 8, 8, 8, 8, 8, 8, 8, 8, 8, 8, 8, 8, 8, 8, 8, 8, 8, 8, 8, 8, 8, 8, 8, 8, 8, 8, 8, 8, 8, 8, 8, 8, 8, 8, 8, 8, 8, 8, 8, 8, 8, 8, 8, 8, 8, 8, 8, 8, 8, 8, 8, 8, 8, 8, 8, 8, 8, 8, 8, 8, 8, 8, 8, 8, 8, 8, 8, 8, 8, 8, 8, 8, 8, 8, 8, 8, 8, 8, 8] : List UInt8) (wr .u8 VQ)).toNat : Int))))) fun (VP : Int) =>
  .ok VP
def zC.j2 (K : Nat)  (VP : Int) (VO : Int) : q7 Int :=
  cond (decide (VP ≥ (256 : Int)))
    (
    lt ((zX .u64 VP (8 : Int))) fun (VR : Int) =>
    lt ((qi (VO + (8 : Int)))) fun (VQ : Int) =>
    zC.j3 K VR VQ)
    (
    zC.j3 K VP VO)
def zC.j1 (K : Nat)  (VP : Int) (VO : Int) : q7 Int :=
  cond (decide (VP ≥ (65536 : Int)))
    (
    lt ((zX .u64 VP (16 : Int))) fun (VR : Int) =>
    lt ((qi (VO + (16 : Int)))) fun (VQ : Int) =>
    zC.j2 K VR VQ)
    (
    zC.j2 K VP VO)
def zC.m (K : Nat) (VO : Int) : q7 Int :=
  cond (decide (VO ≥ (4294967296 : Int)))
    (
    lt ((zX .u64 VO (32 : Int))) fun (VP : Int) =>
    zC.j1 K VP (32 : Int))
    (
    zC.j1 K VO (0 : Int))
def yM.m (K : Nat) (VO : Int) : q7 Unit :=
  .ok ()
def yp.m (K : Nat) (VO : Int) (VP : Int) : q7 Int :=
  lt ((qi ((qi (VP - (1 : Int))) - VO))) fun (VQ : Int) =>
  .ok VQ
def xE.l1 (K : Nat) (VR : Int) (VO : Int) (VS : (List Int)) : Nat → (List Int) → Int → q7 ((List UInt8) × Int)
  | 0, _, _ => .fail
  | k + 1, VP, VQ =>
    cond (decide (VQ < (VS.length : Int)))
      (
      zK (decide (0 ≤ (qi ((8 : Int) * VQ)))) <|
      (yp.m K VQ VO).bind fun VT =>
      zK (inb VT VP.length) <|
      lt (VP.set (Int.toNat VT) (wr .u8 (zX .u64 VR (qi ((8 : Int) * VQ))))) fun (VU : (List Int)) =>
      xE.l1 K VR VO VS k VU (qi (VQ + (1 : Int))))
      (
      lt ((VP.map jo)) fun (VV : List UInt8) =>
      .ok (VV, (0 : Int)))
def xE.m (K : Nat) (VP : Int) (VO : Int) : q7 ((List UInt8) × Int) :=
  (jv.m K VO).bind fun VR =>
  cond (!VR)
    (
    .ok (([] : List UInt8), (1 : Int)))
    (
    (zC.m K VP).bind fun VS =>
    cond (decide (VS > (qi ((8 : Int) * VO))))
      (
      .ok (([] : List UInt8), (10 : Int)))
      (
      (yM.m K VO).bind fun _ =>
      zK (decide (0 ≤ VO) && room (Int.toNat VO) 1) <|
      lt (List.replicate (Int.toNat VO) (0 : Int)) fun (VQ : (List Int)) =>
      xE.l1 K VP VO VQ K VQ (0 : Int)))
def jm.m (K : Nat) (VO : Int) : q7 (List UInt8) :=
  (xE.m K VO (4 : Int)).bind fun (VP, VQ) =>
  .ok VP
def xD.m (K : Nat) (VO : (List Int)) : q7 (List UInt8) :=
  lt ((VO.map jo)) fun (VP : List UInt8) =>
  .ok VP
def zp.j3 (K : Nat) (g1 : (List UInt8) → Int → Int → q7 Int) (VO : List UInt8) (VP : Int) (VR : Int) (VT : Int) : q7 Int :=
  zK (subok VP (VO.length : Int) VO.length) <|
  lt ((vd VR (65521 : Int))) fun (VS : Int) =>
  lt ((vd VT (65521 : Int))) fun (VU : Int) =>
  lt ((sub VO VP (VO.length : Int))) fun (VQ : List UInt8) =>
  g1 VQ VS VU
def zp.l2 (K : Nat) (g1 : (List UInt8) → Int → Int → q7 Int) (VP : List UInt8) (VO : Int) : Nat → Int → Int → Int → q7 Int
  | 0, _, _, _ => .fail
  | k + 1, VR, VT, VQ =>
    cond (decide (VQ < VO))
      (
      zK (inb VQ VP.length) <|
      lt ((wr .u32 (VR + (wr .u32 ((rd VP VQ).toNat : Int))))) fun (VS : Int) =>
      lt ((wr .u32 (VT + VS))) fun (VU : Int) =>
      zp.l2 K g1 VP VO k VS VU (qi (VQ + (1 : Int))))
      (
      zp.j3 K (g1) VP VO VR VT)
def zp.j4 (K : Nat)  (VP : Int) (VQ : Int) : q7 Int :=
  lt ((uk .u32 (z1 .u32 VQ (16 : Int)) VP)) fun (VO : Int) =>
  .ok VO
def zp.l1 (K : Nat)  : Nat → (List UInt8) → Int → Int → q7 Int
  | 0, _, _, _ => .fail
  | k + 1, VO, VQ, VR =>
    cond (decide ((VO.length : Int) > (0 : Int)))
      (
      lt ((if (VO.length : Int) < (5000 : Int) then (VO.length : Int) else (5000 : Int))) fun (VP : Int) =>
      zp.l2 K (zp.l1 K k) VO VP K VQ VR (0 : Int))
      (
      zp.j4 K VQ VR)
def zp.m (K : Nat) (VO : Int) (VP : List UInt8) : q7 Int :=
  lt ((vd (xi .u32 VO (65535 : Int)) (65521 : Int))) fun (VQ : Int) =>
  lt ((vd (zX .u32 VO (16 : Int)) (65521 : Int))) fun (VR : Int) =>
  zp.l1 K K VP VQ VR
def vG.m (K : Nat) (VO : List UInt8) : q7 Int :=
  (zp.m K (1 : Int) VO).bind fun VP =>
  .ok VP
def yX.m (K : Nat) (VO : z2) (VP : Int) : q7 Unit :=
  zK (inb VP VO.text_.length) <|
  zK (inb (qi (VP + (1 : Int))) VO.text_.length) <|
  zK (inb (qi (VP + (2 : Int))) VO.text_.length) <|
  .ok ()
def zv.j2 (K : Nat) (g1 : Int → q7 Int) (VO : Int) (VQ : Bool) : q7 Int :=
  cond VQ
    (
    lt ((qi (VO + (1 : Int)))) fun (VP : Int) =>
    g1 VP)
    (
    .ok VO)
def zv.l1 (K : Nat) (VP : z2) (VR : Int) (VQ : Int) : Nat → Int → q7 Int
  | 0, _ => .fail
  | k + 1, VO =>
    cond (decide (VO < (258 : Int)))
      (
      cond (decide ((qi (VQ + VO)) < (VP.text_.length : Int)))
        (
        zK (inb (qi (VR + VO)) VP.text_.length) <|
        zK (inb (qi (VQ + VO)) VP.text_.length) <|
        zv.j2 K (zv.l1 K VP VR VQ k) VO (((rd VP.text_ (qi (VR + VO))).toNat : Int) == ((rd VP.text_ (qi (VQ + VO))).toNat : Int)))
        (
        zv.j2 K (zv.l1 K VP VR VQ k) VO false))
      (
      zv.j2 K (zv.l1 K VP VR VQ k) VO false)
def zv.m (K : Nat) (VQ : z2) (VO : Int) (VP : Int) : q7 Int :=
  zv.l1 K VQ VO VP K (0 : Int)
def zF.j2 (K : Nat)  (VP : Int) (VO : Int) : q7 (Int × Int) :=
  .ok (VP, VO)
def zF.l1 (K : Nat) (VS : z2) (VT : Int) (VP : (List Int)) : Nat → Int → Int → Int → q7 (Int × Int)
  | 0, _, _, _ => .fail
  | k + 1, VR, VQ, VO =>
    cond ((decide (VO < (32 : Int))) && (decide (VO < (VP.length : Int))))
      (
      zK (inb (qi ((qi ((VP.length : Int) - (1 : Int))) - VO)) VP.length) <|
      lt ((rd VP (qi ((qi ((VP.length : Int) - (1 : Int))) - VO)))) fun (VW : Int) =>
      cond (decide ((qi (VT - VW)) > (32768 : Int)))
        (
        zF.j2 K VR VQ)
        (
        (zv.m K VS VW VT).bind fun VX =>
        cond (decide (VX > VR))
          (
          lt ((qi (VO + (1 : Int)))) fun (VU : Int) =>
          zF.l1 K VS VT VP k VX (qi (VT - VW)) VU)
          (
          lt ((qi (VO + (1 : Int)))) fun (VV : Int) =>
          zF.l1 K VS VT VP k VR VQ VV)))
      (
      zF.j2 K VR VQ)
def zF.m (K : Nat) (VO : z2) (VP : Int) : q7 (Int × Int) :=
  cond (decide ((qi (VP + (3 : Int))) > (VO.text_.length : Int)))
    (
    .ok ((0 : Int), (0 : Int)))
    (
    (yX.m K VO VP).bind fun _ =>
    lt (uJ VO.seen_ ([((rd VO.text_ VP).toNat : Int), ((rd VO.text_ (qi (VP + (1 : Int)))).toNat : Int), ((rd VO.text_ (qi (VP + (2 : Int)))).toNat : Int)] : List Int)) fun (VQ : (List Int)) =>
    zF.l1 K VO VP VQ K (0 : Int) (0 : Int) (0 : Int))
def ja.m (K : Nat) (VO : z2) (VP : Int) : q7 (List ((List Int) × (List Int))) :=
  cond (decide ((qi (VP + (3 : Int))) ≤ (VO.text_.length : Int)))
    (
    (yX.m K VO VP).bind fun _ =>
    lt (uJ VO.seen_ ([((rd VO.text_ VP).toNat : Int), ((rd VO.text_ (qi (VP + (1 : Int)))).toNat : Int), ((rd VO.text_ (qi (VP + (2 : Int)))).toNat : Int)] : List Int)) fun (VQ : (List Int)) =>
    zK (room (VQ.length + ([VP] : List Int).length) 8) <|
    lt (VQ ++ ([VP] : List Int)) fun (VR : (List Int)) =>
    lt (QY VO.seen_ ([((rd VO.text_ VP).toNat : Int), ((rd VO.text_ (qi (VP + (1 : Int)))).toNat : Int), ((rd VO.text_ (qi (VP + (2 : Int)))).toNat : Int)] : List Int) VR) fun (VS : (List ((List Int) × (List Int)))) =>
    .ok VS)
    (
    .ok VO.seen_)
def z4.l3 (K : Nat) (g1 : (List ((List Int) × (List Int))) → (List qH) → Int → q7 (List qH)) (VT : List UInt8) (VO : Int) (VR : (List qH)) : Nat → (List ((List Int) × (List Int))) → Int → Int → q7 (List qH)
  | 0, _, _, _ => .fail
  | k + 1, VP, VS, VU =>
    cond (decide (VU < (if VO > (1 : Int) then VO else (1 : Int))))
      (
      (ja.m K (z2.mk VT VP) VS).bind fun VQ =>
      lt ((qi (VS + (1 : Int)))) fun (VV : Int) =>
      z4.l3 K g1 VT VO VR k VQ VV (qi (VU + (1 : Int))))
      (
      g1 VP VR VS)
def z4.j2 (K : Nat) (g1 : (List ((List Int) × (List Int))) → (List qH) → Int → q7 (List qH)) (VV : List UInt8) (VR : (List ((List Int) × (List Int)))) (VS : (List qH)) (VU : Int) (VQ : Int) (VO : Int) (VP : Int) : q7 (List qH) :=
  zK (room (VS.length + ([(qH.mk VQ VO VP)] : List qH).length) 24) <|
  lt (VS ++ ([(qH.mk VQ VO VP)] : List qH)) fun (VT : (List qH)) =>
  z4.l3 K (g1) VV VO VT K VR VU (0 : Int)
def z4.l1 (K : Nat) (VP : List UInt8) : Nat → (List ((List Int) × (List Int))) → (List qH) → Int → q7 (List qH)
  | 0, _, _, _ => .fail
  | k + 1, VO, VR, VQ =>
    cond (decide (VQ < (VP.length : Int)))
      (
      (zF.m K (z2.mk VP VO) VQ).bind fun (VS, VT) =>
      cond (decide (VS < (3 : Int)))
        (
        zK (inb VQ VP.length) <|
        z4.j2 K (z4.l1 K VP k) VP VO VR VQ ((rd VP VQ).toNat : Int) (0 : Int) (0 : Int))
        (
        z4.j2 K (z4.l1 K VP k) VP VO VR VQ (0 : Int) VS VT))
      (
      .ok VR)
def z4.m (K : Nat) (VO : List UInt8) : q7 (List qH) :=
  z4.l1 K VO K ([] : List ((List Int) × (List Int))) ([] : List qH) (0 : Int)
def zT.j2 (K : Nat) (g1 : (List UInt8) → (List Int) → q7 (List UInt8)) (VQ : List UInt8) (VR : (List Int)) (VO : Int) (VP : Int) : q7 (List UInt8) :=
  zK (room (VR.length + ([VP, (wr .u8 VO), (wr .u8 (zX .i64 VO (8 : Int))), (vW .u8 (wr .u8 VO)), (vW .u8 (wr .u8 (zX .i64 VO (8 : Int))))] : List Int).length) 1) <|
  lt (VR ++ ([VP, (wr .u8 VO), (wr .u8 (zX .i64 VO (8 : Int))), (vW .u8 (wr .u8 VO)), (vW .u8 (wr .u8 (zX .i64 VO (8 : Int))))] : List Int)) fun (VS : (List Int)) =>
  zK (subok (0 : Int) VO VQ.length) <|
  zK (room (VS.length + (sub VQ (0 : Int) VO).length) 1) <|
  lt (VS ++ (sub VQ (0 : Int) VO).map X1) fun (VT : (List Int)) =>
  zK (subok VO (VQ.length : Int) VQ.length) <|
  lt ((sub VQ VO (VQ.length : Int))) fun (VU : List UInt8) =>
  cond (VP == (1 : Int))
    (
    lt ((VT.map jo)) fun (VV : List UInt8) =>
    .ok VV)
    (
    g1 VU VT)
def zT.l1 (K : Nat)  : Nat → (List UInt8) → (List Int) → q7 (List UInt8)
  | 0, _, _ => .fail
  | k + 1, VP, VQ =>
    lt ((if (VP.length : Int) < (65535 : Int) then (VP.length : Int) else (65535 : Int))) fun (VO : Int) =>
    cond (VO == (VP.length : Int))
      (
      zT.j2 K (zT.l1 K k) VP VQ VO (1 : Int))
      (
      zT.j2 K (zT.l1 K k) VP VQ VO (0 : Int))
def zT.m (K : Nat) (VO : List UInt8) : q7 (List UInt8) :=
  zT.l1 K K VO ([] : List Int)
def uo.m (K : Nat) (VO : qH) : q7 Bool :=
  cond (VO.Dist_ == (0 : Int))
    (
    lt ((VO.Len_ == (0 : Int))) fun (VP : Bool) =>
    .ok VP)
    (
    lt ((((((decide (VO.Dist_ > (0 : Int))) && (decide (VO.Dist_ ≤ (32768 : Int)))) && (decide (VO.Len_ ≥ (3 : Int)))) && (decide (VO.Len_ ≤ (258 : Int)))) && (VO.Lit_ == (0 : Int)))) fun (VQ : Bool) =>
    .ok VQ)
def yg.l1 (K : Nat) (VO : Int) : Nat → Int → Int → q7 Int
  | 0, _, _ => .fail
  | k + 1, VQ, VP =>
    zK (decide (0 ≤ VO)) <|
    cond (decide (VQ ≥ (z1 .i64 (2 : Int) VO)))
      (
      lt ((zX .i64 VQ (1 : Int))) fun (VS : Int) =>
      lt ((qi (VP + (1 : Int)))) fun (VR : Int) =>
      yg.l1 K VO k VS VR)
      (
      .ok VP)
def yg.m (K : Nat) (VP : Int) (VO : Int) : q7 Int :=
  yg.l1 K VO K VP (0 : Int)
def jk.m (K : Nat) (VO : Int) : q7 Int :=
  lt ((VO == (258 : Int))) fun (VP : Bool) =>
  cond VP
    (
    .ok (8 : Int))
    (
    lt ((decide (VO ≥ (115 : Int)))) fun (VQ : Bool) =>
    cond VQ
      (
      (yg.m K (qi (VO - (3 : Int))) (2 : Int)).bind fun VT =>
      lt ((qi ((8 : Int) + VT))) fun (VR : Int) =>
      .ok VR)
      (
      (yg.m K (qi (VO - (3 : Int))) (2 : Int)).bind fun VU =>
      lt ((qi ((7 : Int) + VU))) fun (VS : Int) =>
      .ok VS))
def yf.l1 (K : Nat) (VO : List qH) : Nat → Int → Int → q7 (Int × Int)
  | 0, _, _ => .fail
  | k + 1, VQ, VP =>
    cond (decide (VP < (VO.length : Int)))
      (
      zK (inb VP VO.length) <|
      (uo.m K (qH.mk ((rd VO VP).Lit_) ((rd VO VP).Len_) ((rd VO VP).Dist_))).bind fun VX =>
      lt ((!VX)) fun (VU : Bool) =>
      cond VU
        (
        .ok ((0 : Int), (1 : Int)))
        (
        lt ((((rd VO VP).Dist_ == (0 : Int)) && (decide ((rd VO VP).Lit_ < (144 : Int))))) fun (VV : Bool) =>
        cond VV
          (
          lt ((qi (VQ + (8 : Int)))) fun (VR : Int) =>
          yf.l1 K VO k VR (qi (VP + (1 : Int))))
          (
          lt (((rd VO VP).Dist_ == (0 : Int))) fun (VW : Bool) =>
          cond VW
            (
            lt ((qi (VQ + (9 : Int)))) fun (VS : Int) =>
            yf.l1 K VO k VS (qi (VP + (1 : Int))))
            (
            (jk.m K ((rd VO VP).Len_)).bind fun VY =>
            (yg.m K (qi ((rd VO VP).Dist_ - (1 : Int))) (1 : Int)).bind fun VZ =>
            lt ((qi (VQ + (qi ((qi (VY + (5 : Int))) + VZ))))) fun (VT : Int) =>
            yf.l1 K VO k VT (qi (VP + (1 : Int)))))))
      (
      .ok (VQ, (0 : Int)))
def yf.m (K : Nat) (VO : List qH) : q7 (Int × Int) :=
  yf.l1 K VO K (7 : Int) (0 : Int)
def jD.m (K : Nat) (VO : List qH) : q7 Bool :=
  (yf.m K VO).bind fun (VR, VQ) =>
  lt ((VQ == (0 : Int))) fun (VP : Bool) =>
  .ok VP
def xB.j2 (K : Nat)  (VO : (List Int)) : q7 ((List Int) × Bool) :=
  lt (VO.set (Int.toNat (0 : Int)) (0 : Int)) fun (VP : (List Int)) =>
  .ok (VP, true)
def xB.l1 (K : Nat) (VO : List Int) : Nat → (List Int) → Int → q7 ((List Int) × Bool)
  | 0, _, _ => .fail
  | k + 1, VQ, VR =>
    cond (decide (VR < (VO.length : Int)))
      (
      zK (inb VR VO.length) <|
      lt ((rd VO VR)) fun (VP : Int) =>
      cond ((decide (VP < (0 : Int))) || (decide (VP > (15 : Int))))
        (
        .ok (VQ, false))
        (
        zK (inb VP 16) <|
        lt (VQ.set (Int.toNat VP) (qi ((rd VQ VP) + (1 : Int)))) fun (VS : (List Int)) =>
        xB.l1 K VO k VS (qi (VR + (1 : Int)))))
      (
      xB.j2 K VQ)
def xB.m (K : Nat) (VO : List Int) : q7 ((List Int) × Bool) :=
  cond (decide ((VO.length : Int) > (320 : Int)))
    (
    .ok ((List.replicate 16 (0 : Int)), false))
    (
    xB.l1 K VO K (List.replicate 16 (0 : Int)) (0 : Int))
def xL.j2 (K : Nat) (VP : (List Int)) (VO : Int) : q7 Int :=
  cond (((VO == (0 : Int)) || (VO == (32768 : Int))) || (VP == ([0, (1 : Int), 0, 0, 0, 0, 0, 0, 0, 0, 0, 0, 0, 0, 0, 0] : List Int)))
    (
    .ok (0 : Int))
    (
    .ok (3 : Int))
def xL.l1 (K : Nat) (VQ : (List Int)) : Nat → Int → Int → q7 Int
  | 0, _, _ => .fail
  | k + 1, VP, VO =>
    cond (decide (VO < (16 : Int)))
      (
      zK (inb VO 16) <|
      lt ((rd VQ VO)) fun (VS : Int) =>
      zK (decide (0 ≤ VO)) <|
      lt ((qi (VP + (qi (VS * (zX .i64 (32768 : Int) VO)))))) fun (VR : Int) =>
      xL.l1 K VQ k VR (qi (VO + (1 : Int))))
      (
      xL.j2 K VQ VP)
def xL.m (K : Nat) (VO : List Int) : q7 Int :=
  (xB.m K VO).bind fun (VP, VQ) =>
  cond (!VQ)
    (
    .ok (1 : Int))
    (
    xL.l1 K VP K (0 : Int) (0 : Int))
def zH.j2 (K : Nat)  (VO : (List Int)) : q7 (List Int) :=
  .ok VO
def zH.l1 (K : Nat) (VR : List Int) : Nat → (List Int) → Int → Int → q7 (List Int)
  | 0, _, _, _ => .fail
  | k + 1, VP, VS, VO =>
    cond (decide (VO ≤ (15 : Int)))
      (
      zK (inb (qi (VO - (1 : Int))) 16) <|
      lt ((z1 .i64 (qi (VS + (rd VR (qi (VO - (1 : Int)))))) (1 : Int))) fun (VQ : Int) =>
      zK (inb VO 16) <|
      lt (VP.set (Int.toNat VO) VQ) fun (VU : (List Int)) =>
      lt ((qi (VO + (1 : Int)))) fun (VT : Int) =>
      zH.l1 K VR k VU VQ VT)
      (
      zH.j2 K VP)
def zH.m (K : Nat) (VO : List Int) : q7 (List Int) :=
  zH.l1 K VO K (List.replicate 16 (0 : Int)) (0 : Int) (1 : Int)
def yr.l1 (K : Nat) (VO : List Int) : Nat → (List Int) → (List Int) → Int → q7 ((List Int) × Int)
  | 0, _, _, _ => .fail
  | k + 1, VP, VQ, VS =>
    cond (decide (VS < (VO.length : Int)))
      (
      zK (inb VS VO.length) <|
      lt ((rd VO VS)) fun (VR : Int) =>
      cond (decide (VR > (0 : Int)))
        (
        zK (inb VR 16) <|
        zK (inb VS VQ.length) <|
        lt (VQ.set (Int.toNat VS) (rd VP VR)) fun (VT : (List Int)) =>
        lt (VP.set (Int.toNat VR) (qi ((rd VP VR) + (1 : Int)))) fun (VU : (List Int)) =>
        yr.l1 K VO k VU VT (qi (VS + (1 : Int))))
        (
        yr.l1 K VO k VP VQ (qi (VS + (1 : Int)))))
      (
      .ok (VQ, (0 : Int)))
def yr.m (K : Nat) (VO : List Int) : q7 ((List Int) × Int) :=
  (xL.m K VO).bind fun VP =>
  cond (VP != (0 : Int))
    (
    .ok (([] : List Int), VP))
    (
    (xB.m K VO).bind fun (VR, VT) =>
    (zH.m K VR).bind fun VS =>
    zK (decide (0 ≤ (VO.length : Int)) && room (Int.toNat (VO.length : Int)) 8) <|
    lt (List.replicate (Int.toNat (VO.length : Int)) (0 : Int)) fun (VQ : (List Int)) =>
    yr.l1 K VO K VS VQ (0 : Int))
def ya.m (K : Nat) (VO : List Int) : q7 (List Int) :=
  (yr.m K VO).bind fun (VP, VQ) =>
  .ok VP
def za.j4 (K : Nat) (VQ : (List Int)) (VR : (List Int)) : q7 ((List Int) × (List Int) × (List Int) × (List Int)) :=
  (ya.m K VQ).bind fun VO =>
  (ya.m K VR).bind fun VP =>
  .ok (VQ, VO, VR, VP)
def za.l3 (K : Nat) (VP : (List Int)) (VQ : (List Int)) : Nat → (List Int) → Int → q7 ((List Int) × (List Int) × (List Int) × (List Int))
  | 0, _, _ => .fail
  | k + 1, VR, VO =>
    cond (decide (VO < (VQ.length : Int)))
      (
      zK (inb VO VR.length) <|
      lt (VR.set (Int.toNat VO) (5 : Int)) fun (VS : (List Int)) =>
      za.l3 K VP VQ k VS (qi (VO + (1 : Int))))
      (
      za.j4 K VP VR)
def za.j2 (K : Nat)  (VP : (List Int)) : q7 ((List Int) × (List Int) × (List Int) × (List Int)) :=
  zK (decide (0 ≤ (32 : Int)) && room (Int.toNat (32 : Int)) 8) <|
  lt (List.replicate (Int.toNat (32 : Int)) (0 : Int)) fun (VO : (List Int)) =>
  za.l3 K VP VO K VO (0 : Int)
def za.l1 (K : Nat) (VQ : (List Int)) : Nat → (List Int) → Int → q7 ((List Int) × (List Int) × (List Int) × (List Int))
  | 0, _, _ => .fail
  | k + 1, VP, VO =>
    cond (decide (VO < (VQ.length : Int)))
      (
      lt (((decide (VO < (144 : Int))) || (decide (VO ≥ (280 : Int))))) fun (VU : Bool) =>
      cond VU
        (
        zK (inb VO VP.length) <|
        lt (VP.set (Int.toNat VO) (8 : Int)) fun (VR : (List Int)) =>
        za.l1 K VQ k VR (qi (VO + (1 : Int))))
        (
        lt ((decide (VO < (256 : Int)))) fun (VV : Bool) =>
        cond VV
          (
          zK (inb VO VP.length) <|
          lt (VP.set (Int.toNat VO) (9 : Int)) fun (VS : (List Int)) =>
          za.l1 K VQ k VS (qi (VO + (1 : Int))))
          (
          zK (inb VO VP.length) <|
          lt (VP.set (Int.toNat VO) (7 : Int)) fun (VT : (List Int)) =>
          za.l1 K VQ k VT (qi (VO + (1 : Int))))))
      (
      za.j2 K VP)
def za.m (K : Nat) : q7 ((List Int) × (List Int) × (List Int) × (List Int)) :=
  zK (decide (0 ≤ (288 : Int)) && room (Int.toNat (288 : Int)) 8) <|
  lt (List.replicate (Int.toNat (288 : Int)) (0 : Int)) fun (VO : (List Int)) =>
  za.l1 K VO K VO (0 : Int)
def qA.j2 (K : Nat) (g1 : Int → (List Int) → Int → Int → q7 (Int × Int × (List Int))) (VO : Int) (VS : Int) (VR : Int) (VQ : (List Int)) : q7 (Int × Int × (List Int)) :=
  lt ((if VR < (qi ((8 : Int) - (xi .i64 VO (7 : Int)))) then VR else (qi ((8 : Int) - (xi .i64 VO (7 : Int)))))) fun (VP : Int) =>
  zK (inb (x5 .i64 VO (8 : Int)) VQ.length) <|
  zK (decide (0 ≤ VP)) <|
  zK (decide (0 ≤ (xi .i64 VO (7 : Int)))) <|
  lt (VQ.set (Int.toNat (x5 .i64 VO (8 : Int))) (uk .u8 (rd VQ (x5 .i64 VO (8 : Int))) (z1 .u8 (wr .u8 (xi .u32 VS (wr .u32 ((z1 .u32 (1 : Int) VP) - (1 : Int))))) (xi .i64 VO (7 : Int))))) fun (VU : (List Int)) =>
  lt ((zX .u32 VS VP)) fun (VV : Int) =>
  lt ((qi (VR - VP))) fun (VT : Int) =>
  g1 (qi (VO + VP)) VU VV VT
def qA.l1 (K : Nat)  : Nat → Int → (List Int) → Int → Int → q7 (Int × Int × (List Int))
  | 0, _, _, _, _ => .fail
  | k + 1, VP, VO, VR, VQ =>
    cond (decide (VQ > (0 : Int)))
      (
      cond ((xi .i64 VP (7 : Int)) == (0 : Int))
        (
        zK (room (VO.length + ([(0 : Int)] : List Int).length) 1) <|
        lt (VO ++ ([(0 : Int)] : List Int)) fun (VS : (List Int)) =>
        qA.j2 K (qA.l1 K k) VP VR VQ VS)
        (
        qA.j2 K (qA.l1 K k) VP VR VQ VO))
      (
      .ok ((0 : Int), VP, VO))
def qA.m (K : Nat) (VP : qr) (VQ : Int) (VO : Int) : q7 (Int × Int × (List Int)) :=
  zK (Jc false ((decide (VO < (0 : Int))) || (decide (VO > (32 : Int)))) (decide (0 ≤ VO))) <|
  cond (((decide (VO < (0 : Int))) || (decide (VO > (32 : Int)))) || (decide ((zX .u64 (wr .u64 VQ) VO) > (0 : Int))))
    (
    .ok ((1 : Int), VP.Writer_.place_.at_, VP.Writer_.bytes_))
    (
    qA.l1 K K VP.Writer_.place_.at_ VP.Writer_.bytes_ VQ VO)
def zy.l1 (K : Nat) (VO : qr) (VT : Int) : Nat → Int → (List Int) → Int → q7 (Int × (List Int))
  | 0, _, _, _ => .fail
  | k + 1, VQ, VP, VR =>
    cond (decide (VR ≥ (0 : Int)))
      (
      zK (inb VT VO.literals_.codes_.length) <|
      zK (decide (0 ≤ VR)) <|
      (qA.m K (qr.mk (qQ.mk (qs.mk VQ) VP) VO.literals_ VO.distances_) (wr .u32 (xi .i64 (zX .i64 (rd VO.literals_.codes_ VT) VR) (1 : Int))) (1 : Int)).bind fun (VW, VU, VS) =>
      lt ((qi (VR - (1 : Int)))) fun (VV : Int) =>
      zy.l1 K VO VT k VU VS VV)
      (
      .ok (VQ, VP))
def zy.m (K : Nat) (VO : qr) (VR : qy) (VP : Int) : q7 (Int × (List Int)) :=
  zK (inb VP VO.literals_.lengths_.length) <|
  lt ((qi ((rd VO.literals_.lengths_ VP) - (1 : Int)))) fun (VQ : Int) =>
  zy.l1 K VO VP K VO.Writer_.place_.at_ VO.Writer_.bytes_ VQ
def xb.j2 (K : Nat) (VR : Int) (VP : Int) (VO : Int) (VQ : Int) : q7 (Int × Int × Int) :=
  zK (decide (0 ≤ VP)) <|
  zK (decide (0 ≤ VO)) <|
  .ok ((qi ((z1 .i64 VO VP) + VQ)), VO, (wr .u32 (qi (VR - (z1 .i64 VQ VO)))))
def xb.l1 (K : Nat) (VR : Int) (VO : Int) : Nat → Int → Int → q7 (Int × Int × Int)
  | 0, _, _ => .fail
  | k + 1, VQ, VP =>
    zK (decide (0 ≤ VO)) <|
    cond (decide (VP ≥ (z1 .i64 (2 : Int) VO)))
      (
      lt ((zX .i64 VP (1 : Int))) fun (VS : Int) =>
      lt ((qi (VQ + (1 : Int)))) fun (VT : Int) =>
      xb.l1 K VR VO k VT VS)
      (
      xb.j2 K VR VO VQ VP)
def xb.m (K : Nat) (VO : Int) (VP : Int) : q7 (Int × Int × Int) :=
  xb.l1 K VO VP K (0 : Int) VO
def y5.m (K : Nat) (VR : Int) : q7 (Int × Int × Int) :=
  cond (VR == (258 : Int))
    (
    .ok ((285 : Int), (0 : Int), (0 : Int)))
    (
    (xb.m K (qi (VR - (3 : Int))) (2 : Int)).bind fun (VO, VP, VQ) =>
    .ok ((qi (VO + (257 : Int))), VP, VQ))
def yb.m (K : Nat) (VO : qr) (VU : qy) (VR : xr) : q7 (Int × (List Int)) :=
  (zy.m K VO VO.literals_ VR.symbol_).bind fun (VS, VP) =>
  (qA.m K (qr.mk (qQ.mk (qs.mk VS) VP) VO.literals_ VO.distances_) VR.more_ VR.bits_).bind fun (VV, VT, VQ) =>
  .ok (VT, VQ)
def yN.m (K : Nat) (VR : Int) : q7 (Int × Int × Int) :=
  (xb.m K (qi (VR - (1 : Int))) (1 : Int)).bind fun (VO, VP, VQ) =>
  .ok (VO, VP, VQ)
def zI.l1 (K : Nat) (VO : qr) (VT : Int) : Nat → Int → (List Int) → Int → q7 (Int × (List Int))
  | 0, _, _, _ => .fail
  | k + 1, VQ, VP, VR =>
    cond (decide (VR ≥ (0 : Int)))
      (
      zK (inb VT VO.distances_.codes_.length) <|
      zK (decide (0 ≤ VR)) <|
      (qA.m K (qr.mk (qQ.mk (qs.mk VQ) VP) VO.literals_ VO.distances_) (wr .u32 (xi .i64 (zX .i64 (rd VO.distances_.codes_ VT) VR) (1 : Int))) (1 : Int)).bind fun (VW, VU, VS) =>
      lt ((qi (VR - (1 : Int)))) fun (VV : Int) =>
      zI.l1 K VO VT k VU VS VV)
      (
      .ok (VQ, VP))
def zI.m (K : Nat) (VO : qr) (VR : qy) (VP : Int) : q7 (Int × (List Int)) :=
  zK (inb VP VO.distances_.lengths_.length) <|
  lt ((qi ((rd VO.distances_.lengths_ VP) - (1 : Int)))) fun (VQ : Int) =>
  zI.l1 K VO VP K VO.Writer_.place_.at_ VO.Writer_.bytes_ VQ
def yc.m (K : Nat) (VO : qr) (VU : qy) (VR : xr) : q7 (Int × (List Int)) :=
  (zI.m K VO VO.distances_ VR.symbol_).bind fun (VS, VP) =>
  (qA.m K (qr.mk (qQ.mk (qs.mk VS) VP) VO.literals_ VO.distances_) VR.more_ VR.bits_).bind fun (VV, VT, VQ) =>
  .ok (VT, VQ)
def zq.j2 (K : Nat) (VO : qr) (VR : Int) (VP : (List Int)) : q7 (Int × (List Int)) :=
  (zy.m K (qr.mk (qQ.mk (qs.mk VR) VP) VO.literals_ VO.distances_) VO.literals_ (256 : Int)).bind fun (VS, VQ) =>
  .ok (VS, VQ)
def zq.l1 (K : Nat) (VO : qr) (VP : List qH) : Nat → Int → (List Int) → Int → q7 (Int × (List Int))
  | 0, _, _, _ => .fail
  | k + 1, VS, VQ, VR =>
    cond (decide (VR < (VP.length : Int)))
      (
      zK (inb VR VP.length) <|
      cond ((rd VP VR).Dist_ == (0 : Int))
        (
        (zy.m K (qr.mk (qQ.mk (qs.mk VS) VQ) VO.literals_ VO.distances_) VO.literals_ (wr .i64 (rd VP VR).Lit_)).bind fun (V2, VV) =>
        zq.l1 K VO VP k V2 VV (qi (VR + (1 : Int))))
        (
        (y5.m K ((rd VP VR).Len_)).bind fun (VT, VY, V0) =>
        (yb.m K (qr.mk (qQ.mk (qs.mk VS) VQ) VO.literals_ VO.distances_) VO.literals_ (xr.mk VT VY V0)).bind fun (V3, VW) =>
        (yN.m K ((rd VP VR).Dist_)).bind fun (VU, VZ, V1) =>
        (yc.m K (qr.mk (qQ.mk (qs.mk V3) VW) VO.literals_ VO.distances_) VO.distances_ (xr.mk VU VZ V1)).bind fun (V4, VX) =>
        zq.l1 K VO VP k V4 VX (qi (VR + (1 : Int)))))
      (
      zq.j2 K VO VS VQ)
def zq.m (K : Nat) (VO : qr) (VP : List qH) : q7 (Int × (List Int)) :=
  zq.l1 K VO VP K VO.Writer_.place_.at_ VO.Writer_.bytes_ (0 : Int)
def xh.m (K : Nat) (VO : qr) : q7 (List UInt8) :=
  lt ((VO.Writer_.bytes_.map jo)) fun (VP : List UInt8) =>
  .ok VP
def vk.m (K : Nat) (VW : List qH) : q7 ((List UInt8) × Int) :=
  (jD.m K VW).bind fun VY =>
  cond (!VY)
    (
    .ok (([] : List UInt8), (1 : Int)))
    (
    (za.m K).bind fun (VO, VQ, VP, VR) =>
    (qA.m K (qr.mk (qQ.mk (qs.mk (0 : Int)) ([] : List Int)) (qy.mk VO VQ) (qy.mk VP VR)) (3 : Int) (3 : Int)).bind fun (VZ, VU, VS) =>
    (zq.m K (qr.mk (qQ.mk (qs.mk VU) VS) (qy.mk VO VQ) (qy.mk VP VR)) VW).bind fun (VV, VT) =>
    (xh.m K (qr.mk (qQ.mk (qs.mk VV) VT) (qy.mk VO VQ) (qy.mk VP VR))).bind fun VX =>
    .ok (VX, (0 : Int)))
def jT.m (K : Nat) (VO : Int) : q7 Bool :=
  lt (((decide (VO < (0 : Int))) || (decide (VO > (1099511627776 : Int))))) fun (VP : Bool) =>
  .ok VP
def zw.l1 (K : Nat) (VP : List Int) : Nat → Int → q7 Int
  | 0, _ => .fail
  | k + 1, VO =>
    cond (decide (VO < (VP.length : Int)))
      (
      zK (inb VO VP.length) <|
      (jT.m K (rd VP VO)).bind fun VQ =>
      cond VQ
        (
        .ok VO)
        (
        zw.l1 K VP k (qi (VO + (1 : Int)))))
      (
      .ok (-1 : Int))
def zw.m (K : Nat) (VO : List Int) : q7 Int :=
  zw.l1 K VO K (0 : Int)
def xv.m (K : Nat) (VO : List Int) : q7 Bool :=
  (zw.m K VO).bind fun VQ =>
  lt ((decide (VQ ≥ (0 : Int)))) fun (VP : Bool) =>
  .ok VP
def y3.m (K : Nat) (VO : Int) : q7 Bool :=
  lt ((VO != VO)) fun (VP : Bool) =>
  .ok VP
def jh.m (K : Nat) (VO : Int) (VP : Int) : q7 Int :=
  (y3.m K VO).bind fun VR =>
  (y3.m K VP).bind fun VQ =>
  cond VR
    (
    cond VQ
      (
      .ok (0 : Int))
      (
      .ok (-1 : Int)))
    (
    cond VQ
      (
      .ok (1 : Int))
      (
      cond (decide (VO < VP))
        (
        .ok (-1 : Int))
        (
        cond (decide (VO > VP))
          (
          .ok (1 : Int))
          (
          .ok (0 : Int)))))
def xA.m (K : Nat) (VO : qb) (VQ : qb) : q7 Int :=
  (jh.m K VO.often_ VQ.often_).bind fun VP =>
  .ok VP
def qf.j3 (K : Nat) (g1 : (List qb) → Int → q7 (List qb)) (g2 : (List qb) → Int → q7 (List qb)) (VS : Int) (VO : (List qb)) (VP : Int) (VV : Bool) : q7 (List qb) :=
  cond VV
    (
    zK (inb (qi (VP - (1 : Int))) VO.length) <|
    zK (inb VP VO.length) <|
    lt (VO.set (Int.toNat VP) (qb.mk ((rd VO (qi (VP - (1 : Int)))).often_) ((rd VO (qi (VP - (1 : Int)))).symbols_))) fun (VQ : (List qb)) =>
    zK (inb (qi (VP - (1 : Int))) VQ.length) <|
    lt (VQ.set (Int.toNat (qi (VP - (1 : Int)))) (qb.mk ((rd VO VP).often_) ((rd VO VP).symbols_))) fun (VR : (List qb)) =>
    lt ((qi (VP - (1 : Int)))) fun (VU : Int) =>
    g2 VR VU)
    (
    lt ((qi (VS + (1 : Int)))) fun (VT : Int) =>
    g1 VO VT)
def qf.l2 (K : Nat) (g1 : (List qb) → Int → q7 (List qb)) (VQ : Int) (VR : Int) : Nat → (List qb) → Int → q7 (List qb)
  | 0, _, _ => .fail
  | k + 1, VO, VP =>
    cond (decide (VP > VQ))
      (
      zK (inb VP VO.length) <|
      zK (inb (qi (VP - (1 : Int))) VO.length) <|
      (xA.m K (qb.mk ((rd VO VP).often_) ((rd VO VP).symbols_)) (qb.mk ((rd VO (qi (VP - (1 : Int)))).often_) ((rd VO (qi (VP - (1 : Int)))).symbols_))).bind fun VS =>
      qf.j3 K (g1) (qf.l2 K g1 VQ VR k) VR VO VP (decide (VS < (0 : Int))))
      (
      qf.j3 K (g1) (qf.l2 K g1 VQ VR k) VR VO VP false)
def qf.l1 (K : Nat) (VP : Int) (VQ : Int) : Nat → (List qb) → Int → q7 (List qb)
  | 0, _, _ => .fail
  | k + 1, VO, VR =>
    cond (decide (VR < VQ))
      (
      qf.l2 K (qf.l1 K VP VQ k) VP VR K VO VR)
      (
      .ok VO)
def qf.m (K : Nat) (VP : List qb) (VO : Int) (VQ : Int) : q7 (List qb) :=
  lt ((qi (VO + (1 : Int)))) fun (VR : Int) =>
  qf.l1 K VO VQ K VP VR
def qR.l1 (K : Nat) (VR : Int) (VQ : Int) (VS : Int) : Nat → (List qb) → Int → q7 (List qb)
  | 0, _, _ => .fail
  | k + 1, VO, VP =>
    cond (decide (VP < VS))
      (
      zK (inb (qi (VQ + VP)) VO.length) <|
      zK (inb (qi (VR + VP)) VO.length) <|
      lt (VO.set (Int.toNat (qi (VR + VP))) (qb.mk ((rd VO (qi (VQ + VP))).often_) ((rd VO (qi (VQ + VP))).symbols_))) fun (VT : (List qb)) =>
      zK (inb (qi (VQ + VP)) VT.length) <|
      lt (VT.set (Int.toNat (qi (VQ + VP))) (qb.mk ((rd VO (qi (VR + VP))).often_) ((rd VO (qi (VR + VP))).symbols_))) fun (VU : (List qb)) =>
      lt ((qi (VP + (1 : Int)))) fun (VV : Int) =>
      qR.l1 K VR VQ VS k VU VV)
      (
      .ok VO)
def qR.m (K : Nat) (VO : List qb) (VP : Int) (VQ : Int) (VR : Int) : q7 (List qb) :=
  qR.l1 K VP VQ VR K VO (0 : Int)
def qK.j2 (K : Nat) (VR : Int) (VO : (List qb)) (VQ : Int) : q7 (List qb) :=
  (qR.m K VO (qi (VR - VQ)) VR VQ).bind fun VP =>
  .ok VP
def qK.l1 (K : Nat) (VR : Int) : Nat → (List qb) → Int → Int → q7 (List qb)
  | 0, _, _, _ => .fail
  | k + 1, VP, VO, VQ =>
    cond (VO != VQ)
      (
      cond (decide (VO > VQ))
        (
        (qR.m K VP (qi (VR - VO)) VR VQ).bind fun VS =>
        lt ((qi (VO - VQ))) fun (VU : Int) =>
        qK.l1 K VR k VS VU VQ)
        (
        (qR.m K VP (qi (VR - VO)) (qi ((qi (VR + VQ)) - VO)) VO).bind fun VT =>
        lt ((qi (VQ - VO))) fun (VV : Int) =>
        qK.l1 K VR k VT VO VV))
      (
      qK.j2 K VR VP VO)
def qK.m (K : Nat) (VO : List qb) (VQ : Int) (VP : Int) (VR : Int) : q7 (List qb) :=
  lt ((qi (VP - VQ))) fun (VS : Int) =>
  lt ((qi (VR - VP))) fun (VT : Int) =>
  qK.l1 K VP K VO VS VT
def qa.l3 (K : Nat) (rc : (List qb) → Int → Int → Int → q7 (List qb)) (VR : Int) : Nat → (List qb) → Int → q7 (List qb)
  | 0, _, _ => .fail
  | k + 1, VO, VP =>
    cond (decide (VP < (qi (VR - (1 : Int)))))
      (
      zK (inb (qi (VP + (1 : Int))) VO.length) <|
      zK (inb VP VO.length) <|
      lt (VO.set (Int.toNat VP) (qb.mk ((rd VO (qi (VP + (1 : Int)))).often_) ((rd VO (qi (VP + (1 : Int)))).symbols_))) fun (VQ : (List qb)) =>
      zK (inb (qi (VP + (1 : Int))) VQ.length) <|
      lt (VQ.set (Int.toNat (qi (VP + (1 : Int)))) (qb.mk ((rd VO VP).often_) ((rd VO VP).symbols_))) fun (VT : (List qb)) =>
      lt ((qi (VP + (1 : Int)))) fun (VS : Int) =>
      qa.l3 K rc VR k VT VS)
      (
      .ok VO)
def qa.j2 (K : Nat) (rc : (List qb) → Int → Int → Int → q7 (List qb)) (VO : List qb) (VP : Int) (VQ : Int) : q7 (List qb) :=
  qa.l3 K rc VQ K VO VP
def qa.l1 (K : Nat) (rc : (List qb) → Int → Int → Int → q7 (List qb)) (VO : List qb) (VP : Int) : Nat → Int → Int → q7 (List qb)
  | 0, _, _ => .fail
  | k + 1, VR, VS =>
    cond (decide (VR < VS))
      (
      lt ((wr .i64 (zX .u64 (wr .u64 (qi (VR + VS))) (1 : Int)))) fun (VQ : Int) =>
      zK (inb VQ VO.length) <|
      zK (inb VP VO.length) <|
      (xA.m K (qb.mk ((rd VO VQ).often_) ((rd VO VQ).symbols_)) (qb.mk ((rd VO VP).often_) ((rd VO VP).symbols_))).bind fun VU =>
      cond (decide (VU < (0 : Int)))
        (
        lt ((qi (VQ + (1 : Int)))) fun (VT : Int) =>
        qa.l1 K rc VO VP k VT VS)
        (
        qa.l1 K rc VO VP k VR VQ))
      (
      qa.j2 K rc VO VP VR)
def qa.l7 (K : Nat) (rc : (List qb) → Int → Int → Int → q7 (List qb)) (VR : Int) : Nat → (List qb) → Int → q7 (List qb)
  | 0, _, _ => .fail
  | k + 1, VO, VP =>
    cond (decide (VP > VR))
      (
      zK (inb (qi (VP - (1 : Int))) VO.length) <|
      zK (inb VP VO.length) <|
      lt (VO.set (Int.toNat VP) (qb.mk ((rd VO (qi (VP - (1 : Int)))).often_) ((rd VO (qi (VP - (1 : Int)))).symbols_))) fun (VQ : (List qb)) =>
      zK (inb (qi (VP - (1 : Int))) VQ.length) <|
      lt (VQ.set (Int.toNat (qi (VP - (1 : Int)))) (qb.mk ((rd VO VP).often_) ((rd VO VP).symbols_))) fun (VT : (List qb)) =>
      lt ((qi (VP - (1 : Int)))) fun (VS : Int) =>
      qa.l7 K rc VR k VT VS)
      (
      .ok VO)
def qa.j6 (K : Nat) (rc : (List qb) → Int → Int → Int → q7 (List qb)) (VO : List qb) (VQ : Int) (VP : Int) : q7 (List qb) :=
  qa.l7 K rc VP K VO VQ
def qa.l5 (K : Nat) (rc : (List qb) → Int → Int → Int → q7 (List qb)) (VO : List qb) (VP : Int) : Nat → Int → Int → q7 (List qb)
  | 0, _, _ => .fail
  | k + 1, VR, VS =>
    cond (decide (VR < VS))
      (
      lt ((wr .i64 (zX .u64 (wr .u64 (qi (VR + VS))) (1 : Int)))) fun (VQ : Int) =>
      zK (inb VP VO.length) <|
      zK (inb VQ VO.length) <|
      (xA.m K (qb.mk ((rd VO VP).often_) ((rd VO VP).symbols_)) (qb.mk ((rd VO VQ).often_) ((rd VO VQ).symbols_))).bind fun VU =>
      cond (!(decide (VU < (0 : Int))))
        (
        lt ((qi (VQ + (1 : Int)))) fun (VT : Int) =>
        qa.l5 K rc VO VP k VT VS)
        (
        qa.l5 K rc VO VP k VR VQ))
      (
      qa.j6 K rc VO VP VR)
def qa.j13 (K : Nat) (rc : (List qb) → Int → Int → Int → q7 (List qb)) (VR : Int) (VQ : Int) (VO : Int) (VP : (List qb)) : q7 (List qb) :=
  cond ((decide (VQ < VO)) && (decide (VO < VR)))
    (
    (rc VP VQ VO VR).bind fun VS =>
    .ok VS)
    (
    .ok VP)
def qa.j12 (K : Nat) (rc : (List qb) → Int → Int → Int → q7 (List qb)) (VS : Int) (VT : Int) (VP : Int) (VO : Int) (VR : Int) (VQ : (List qb)) : q7 (List qb) :=
  cond ((decide (VS < VO)) && (decide (VO < VP)))
    (
    (rc VQ VS VO VP).bind fun VU =>
    qa.j13 K rc VT VP VR VU)
    (
    qa.j13 K rc VT VP VR VQ)
def qa.j11 (K : Nat) (rc : (List qb) → Int → Int → Int → q7 (List qb)) (VQ : List qb) (VS : Int) (VV : Int) (VT : Int) (VR : Int) (VW : Int) (VO : Int) : q7 (List qb) :=
  lt ((qi (VW - VO))) fun (VP : Int) =>
  cond ((decide (VO < VV)) && (decide (VV < VP)))
    (
    (qK.m K VQ VO VV VP).bind fun VU =>
    qa.j12 K rc VS VT VR VO VP VU)
    (
    qa.j12 K rc VS VT VR VO VP VQ)
def qa.l10 (K : Nat) (rc : (List qb) → Int → Int → Int → q7 (List qb)) (VO : List qb) (VT : Int) (VX : Int) (VU : Int) (VR : Int) (VV : Int) (VS : Int) : Nat → Int → Int → q7 (List qb)
  | 0, _, _ => .fail
  | k + 1, VQ, VY =>
    cond (decide (VQ < VY))
      (
      lt ((wr .i64 (zX .u64 (wr .u64 (qi (VQ + VY))) (1 : Int)))) fun (VP : Int) =>
      zK (inb (qi (VS - VP)) VO.length) <|
      zK (inb VP VO.length) <|
      (xA.m K (qb.mk ((rd VO (qi (VS - VP))).often_) ((rd VO (qi (VS - VP))).symbols_)) (qb.mk ((rd VO VP).often_) ((rd VO VP).symbols_))).bind fun VZ =>
      cond (!(decide (VZ < (0 : Int))))
        (
        lt ((qi (VP + (1 : Int)))) fun (VW : Int) =>
        qa.l10 K rc VO VT VX VU VR VV VS k VW VY)
        (
        qa.l10 K rc VO VT VX VU VR VV VS k VQ VP))
      (
      qa.j11 K rc VO VT VX VU VR VV VQ)
def qa.j9 (K : Nat) (rc : (List qb) → Int → Int → Int → q7 (List qb)) (VP : List qb) (VS : Int) (VU : Int) (VT : Int) (VR : Int) (VQ : Int) (VO : Int) (VW : Int) : q7 (List qb) :=
  lt ((qi (VQ - (1 : Int)))) fun (VV : Int) =>
  qa.l10 K rc VP VS VU VT VR VQ VV K VO VW
def qa.j8 (K : Nat) (rc : (List qb) → Int → Int → Int → q7 (List qb)) (VR : List qb) (VP : Int) (VS : Int) (VQ : Int) : q7 (List qb) :=
  lt ((wr .i64 (zX .u64 (wr .u64 (qi (VP + VQ))) (1 : Int)))) fun (VO : Int) =>
  lt ((qi (VO + VS))) fun (VT : Int) =>
  cond (decide (VS > VO))
    (
    lt ((qi (VT - VQ))) fun (VU : Int) =>
    qa.j9 K rc VR VP VS VQ VO VT VU VO)
    (
    qa.j9 K rc VR VP VS VQ VO VT VP VS)
def qa.j4 (K : Nat) (rc : (List qb) → Int → Int → Int → q7 (List qb)) (VO : List qb) (VQ : Int) (VP : Int) (VR : Int) : q7 (List qb) :=
  cond ((qi (VR - VP)) == (1 : Int))
    (
    qa.l5 K rc VO VP K VQ VP)
    (
    qa.j8 K rc VO VQ VP VR)
def qa.b (K : Nat) (rc : (List qb) → Int → Int → Int → q7 (List qb)) (VO : List qb) (VP : Int) (VR : Int) (VQ : Int) : q7 (List qb) :=
  cond ((qi (VR - VP)) == (1 : Int))
    (
    qa.l1 K rc VO VP K VR VQ)
    (
    qa.j4 K rc VO VP VR VQ)
def qa.r (K : Nat) : Nat → (List qb) → Int → Int → Int → q7 (List qb)
  | 0 => fun _ _ _ _ => .fail
  | d + 1 => qa.b K (qa.r K d)
def qa.m (K : Nat) (VO : List qb) (VP : Int) (VR : Int) (VQ : Int) : q7 (List qb) := qa.r K K VO VP VR VQ
def qg.j5 (K : Nat) (g3 : (List qb) → Int → q7 (List qb)) (VU : Int) (VO : Int) (VR : (List qb)) (VS : Int) : q7 (List qb) :=
  lt ((qi (VS + VO))) fun (VV : Int) =>
  cond (decide (VV < VU))
    (
    (qa.m K VR VS VV VU).bind fun VT =>
    lt ((qi (VO * (2 : Int)))) fun (VP : Int) =>
    g3 VT VP)
    (
    lt ((qi (VO * (2 : Int)))) fun (VQ : Int) =>
    g3 VR VQ)
def qg.l4 (K : Nat) (g3 : (List qb) → Int → q7 (List qb)) (VS : Int) (VO : Int) : Nat → (List qb) → Int → Int → q7 (List qb)
  | 0, _, _, _ => .fail
  | k + 1, VQ, VR, VP =>
    cond (decide (VP ≤ VS))
      (
      (qa.m K VQ VR (qi (VR + VO)) VP).bind fun VT =>
      lt ((qi (VP + (qi ((2 : Int) * VO))))) fun (VU : Int) =>
      qg.l4 K g3 VS VO k VT VP VU)
      (
      qg.j5 K (g3) VS VO VQ VR)
def qg.l3 (K : Nat) (VQ : Int) : Nat → (List qb) → Int → q7 (List qb)
  | 0, _, _ => .fail
  | k + 1, VP, VO =>
    cond (decide (VO < VQ))
      (
      lt ((qi ((2 : Int) * VO))) fun (VR : Int) =>
      qg.l4 K (qg.l3 K VQ k) VQ VO K VP (0 : Int) VR)
      (
      .ok VP)
def qg.j2 (K : Nat) (VQ : Int) (VO : (List qb)) (VR : Int) : q7 (List qb) :=
  (qf.m K VO VR VQ).bind fun VP =>
  qg.l3 K VQ K VP (20 : Int)
def qg.l1 (K : Nat) (VQ : Int) : Nat → (List qb) → Int → Int → q7 (List qb)
  | 0, _, _, _ => .fail
  | k + 1, VP, VR, VO =>
    cond (decide (VO ≤ VQ))
      (
      (qf.m K VP VR VO).bind fun VS =>
      lt ((qi (VO + (20 : Int)))) fun (VT : Int) =>
      qg.l1 K VQ k VS VO VT)
      (
      qg.j2 K VQ VP VR)
def qg.m (K : Nat) (VO : List qb) (VP : Int) : q7 (List qb) :=
  qg.l1 K VP K VO (0 : Int) (20 : Int)
def zt.m (K : Nat) (VP : List qb) : q7 (List qb) :=
  (qg.m K VP (VP.length : Int)).bind fun VO =>
  .ok VO
def xV.m (K : Nat) (VP : Int) : q7 Unit :=
  cond (decide (VP < (0 : Int)))
    (
    .pan (.iface v9 (qN ([99, 97, 110, 110, 111, 116, 32, 98, 101, 32, 110, 101, 103, 97, 116, 105, 118, 101] : List UInt8))))
    (
    lt ((qi (VP - (qi ((0 : Int) - (0 : Int)))))) fun (VO : Int) =>
    cond (decide (VO > (0 : Int)))
      (
      zK (decide ((0 : Int) < VO) && room (Int.toNat VO) 8) <|
      .ok ())
      (
      .ok ()))
def q8.l3 (K : Nat) (VO : List (List Int)) : Nat → (List Int) → Int → q7 (List Int)
  | 0, _, _ => .fail
  | k + 1, VP, VQ =>
    cond (decide (VQ < (VO.length : Int)))
      (
      zK (inb VQ VO.length) <|
      zK (room (VP.length + (rd VO VQ).length) 8) <|
      lt (VP ++ (rd VO VQ)) fun (VR : (List Int)) =>
      q8.l3 K VO k VR (qi (VQ + (1 : Int))))
      (
      .ok VP)
def q8.j2 (K : Nat) (VO : List (List Int)) (VP : Int) : q7 (List Int) :=
  (xV.m K VP).bind fun _ =>
  q8.l3 K VO K ([] : List Int) (0 : Int)
def q8.l1 (K : Nat) (VO : List (List Int)) : Nat → Int → Int → q7 (List Int)
  | 0, _, _ => .fail
  | k + 1, VP, VR =>
    cond (decide (VR < (VO.length : Int)))
      (
      zK (inb VR VO.length) <|
      lt ((qi (VP + ((rd VO VR).length : Int)))) fun (VQ : Int) =>
      cond (decide (VQ < (0 : Int)))
        (
        .pan (.iface v9 (qN ([108, 101, 110, 32, 111, 117, 116, 32, 111, 102, 32, 114, 97, 110, 103, 101] : List UInt8))))
        (
        q8.l1 K VO k VQ (qi (VR + (1 : Int)))))
      (
      q8.j2 K VO VP)
def q8.m (K : Nat) (VO : List (List Int)) : q7 (List Int) :=
  q8.l1 K VO K (0 : Int) (0 : Int)
def yJ.l1 (K : Nat) (VO : List qb) : Nat → (List qb) → Int → q7 (List qb)
  | 0, _, _ => .fail
  | k + 1, VQ, VP =>
    cond (decide ((qi (VP + (1 : Int))) < (VO.length : Int)))
      (
      zK (inb VP VO.length) <|
      zK (inb (qi (VP + (1 : Int))) VO.length) <|
      (q8.m K ([(rd VO VP).symbols_, (rd VO (qi (VP + (1 : Int)))).symbols_] : List (List Int))).bind fun VR =>
      zK (room (VQ.length + ([(qb.mk (qi ((rd VO VP).often_ + (rd VO (qi (VP + (1 : Int)))).often_)) VR)] : List qb).length) 32) <|
      lt (VQ ++ ([(qb.mk (qi ((rd VO VP).often_ + (rd VO (qi (VP + (1 : Int)))).often_)) VR)] : List qb)) fun (VS : (List qb)) =>
      lt ((qi (VP + (2 : Int)))) fun (VT : Int) =>
      yJ.l1 K VO k VS VT)
      (
      .ok VQ)
def yJ.m (K : Nat) (VO : List qb) : q7 (List qb) :=
  yJ.l1 K VO K ([] : List qb) (0 : Int)
def xd.m (K : Nat) (VP : Int) : q7 Unit :=
  cond (decide (VP < (0 : Int)))
    (
    .pan (.iface v9 (qN ([99, 97, 110, 110, 111, 116, 32, 98, 101, 32, 110, 101, 103, 97, 116, 105, 118, 101] : List UInt8))))
    (
    lt ((qi (VP - (qi ((0 : Int) - (0 : Int)))))) fun (VO : Int) =>
    cond (decide (VO > (0 : Int)))
      (
      zK (decide ((0 : Int) < VO) && room (Int.toNat VO) 32) <|
      .ok ())
      (
      .ok ()))
def qD.l3 (K : Nat) (VO : List (List qb)) : Nat → (List qb) → Int → q7 (List qb)
  | 0, _, _ => .fail
  | k + 1, VP, VQ =>
    cond (decide (VQ < (VO.length : Int)))
      (
      zK (inb VQ VO.length) <|
      zK (room (VP.length + (rd VO VQ).length) 32) <|
      lt (VP ++ (rd VO VQ)) fun (VR : (List qb)) =>
      qD.l3 K VO k VR (qi (VQ + (1 : Int))))
      (
      .ok VP)
def qD.j2 (K : Nat) (VO : List (List qb)) (VP : Int) : q7 (List qb) :=
  (xd.m K VP).bind fun _ =>
  qD.l3 K VO K ([] : List qb) (0 : Int)
def qD.l1 (K : Nat) (VO : List (List qb)) : Nat → Int → Int → q7 (List qb)
  | 0, _, _ => .fail
  | k + 1, VP, VR =>
    cond (decide (VR < (VO.length : Int)))
      (
      zK (inb VR VO.length) <|
      lt ((qi (VP + ((rd VO VR).length : Int)))) fun (VQ : Int) =>
      cond (decide (VQ < (0 : Int)))
        (
        .pan (.iface v9 (qN ([108, 101, 110, 32, 111, 117, 116, 32, 111, 102, 32, 114, 97, 110, 103, 101] : List UInt8))))
        (
        qD.l1 K VO k VQ (qi (VR + (1 : Int)))))
      (
      qD.j2 K VO VP)
def qD.m (K : Nat) (VO : List (List qb)) : q7 (List qb) :=
  qD.l1 K VO K (0 : Int) (0 : Int)
def vU.m (K : Nat) (VO : List qb) (VP : List qb) : q7 (List qb) :=
  (qD.m K ([VO, VP] : List (List qb))).bind fun VQ =>
  (zt.m K VQ).bind fun VR =>
  .ok VR
def qS.l8 (K : Nat) (g7 : (List Int) → Int → q7 ((List Int) × Int)) (VP : (List qb)) (VQ : Int) : Nat → (List Int) → Int → q7 ((List Int) × Int)
  | 0, _, _ => .fail
  | k + 1, VO, VR =>
    cond (decide (VR < (((rd VP VQ).symbols_).length : Int)))
      (
      zK (inb VR ((rd VP VQ).symbols_).length) <|
      lt ((rd ((rd VP VQ).symbols_) VR)) fun (VS : Int) =>
      zK (inb VS VO.length) <|
      lt (VO.set (Int.toNat VS) (qi ((rd VO VS) + (1 : Int)))) fun (VT : (List Int)) =>
      qS.l8 K g7 VP VQ k VT (qi (VR + (1 : Int))))
      (
      g7 VO (qi (VQ + (1 : Int))))
def qS.l7 (K : Nat) (VO : (List qb)) : Nat → (List Int) → Int → q7 ((List Int) × Int)
  | 0, _, _ => .fail
  | k + 1, VP, VQ =>
    cond (decide (VQ < (VO.length : Int)))
      (
      zK (inb VQ VO.length) <|
      qS.l8 K (qS.l7 K VO k) VO VQ K VP (0 : Int))
      (
      .ok (VP, (0 : Int)))
def qS.j6 (K : Nat) (VP : (List Int)) (VQ : (List qb)) (VO : (List qb)) : q7 ((List Int) × Int) :=
  zK (subok (0 : Int) (qi ((qi ((2 : Int) * (VQ.length : Int))) - (2 : Int))) VO.length) <|
  lt (sub VO (0 : Int) (qi ((qi ((2 : Int) * (VQ.length : Int))) - (2 : Int)))) fun (VR : (List qb)) =>
  qS.l7 K VR K VP (0 : Int)
def qS.l5 (K : Nat) (VO : Int) (VP : (List Int)) (VR : (List qb)) : Nat → (List qb) → Int → q7 ((List Int) × Int)
  | 0, _, _ => .fail
  | k + 1, VQ, VS =>
    cond (decide (VS < (qi (VO - (1 : Int)))))
      (
      (yJ.m K VQ).bind fun VT =>
      (vU.m K VR VT).bind fun VU =>
      qS.l5 K VO VP VR k VU (qi (VS + (1 : Int))))
      (
      qS.j6 K VP VR VQ)
def qS.j4 (K : Nat) (VQ : Int) (VO : (List qb)) (VP : (List Int)) : q7 ((List Int) × Int) :=
  cond (decide ((VO.length : Int) < (2 : Int)))
    (
    .ok (VP, (0 : Int)))
    (
    (zt.m K VO).bind fun VR =>
    qS.l5 K VQ VP VR K VR (0 : Int))
def qS.j3 (K : Nat) (VQ : List Int) (VP : Int) (VO : (List qb)) : q7 ((List Int) × Int) :=
  zK (decide (0 ≤ VP)) <|
  cond (decide ((VO.length : Int) > (z1 .i64 (1 : Int) VP)))
    (
    .ok (([] : List Int), (1 : Int)))
    (
    zK (decide (0 ≤ (VQ.length : Int)) && room (Int.toNat (VQ.length : Int)) 8) <|
    lt (List.replicate (Int.toNat (VQ.length : Int)) (0 : Int)) fun (VR : (List Int)) =>
    cond ((VO.length : Int) == (1 : Int))
      (
      zK (inb (0 : Int) VO.length) <|
      zK (inb (0 : Int) ((rd VO (0 : Int)).symbols_).length) <|
      zK (inb (rd ((rd VO (0 : Int)).symbols_) (0 : Int)) VR.length) <|
      lt (VR.set (Int.toNat (rd ((rd VO (0 : Int)).symbols_) (0 : Int))) (1 : Int)) fun (VS : (List Int)) =>
      qS.j4 K VP VO VS)
      (
      qS.j4 K VP VO VR))
def qS.l2 (K : Nat) (VO : List Int) (VQ : Int) : Nat → (List qb) → Int → q7 ((List Int) × Int)
  | 0, _, _ => .fail
  | k + 1, VP, VR =>
    cond (decide (VR < (VO.length : Int)))
      (
      zK (inb VR VO.length) <|
      lt ((rd VO VR)) fun (VS : Int) =>
      cond (decide (VS > (0 : Int)))
        (
        zK (room (VP.length + ([(qb.mk VS ([VR] : List Int))] : List qb).length) 32) <|
        lt (VP ++ ([(qb.mk VS ([VR] : List Int))] : List qb)) fun (VT : (List qb)) =>
        qS.l2 K VO VQ k VT (qi (VR + (1 : Int))))
        (
        qS.l2 K VO VQ k VP (qi (VR + (1 : Int)))))
      (
      qS.j3 K VO VQ VP)
def qS.j1 (K : Nat) (VO : List Int) (VP : Int) (VQ : Bool) : q7 ((List Int) × Int) :=
  cond VQ
    (
    .ok (([] : List Int), (1 : Int)))
    (
    qS.l2 K VO VP K ([] : List qb) (0 : Int))
def qS.m (K : Nat) (VO : List Int) (VP : Int) : q7 ((List Int) × Int) :=
  cond (((decide (VP < (1 : Int))) || (decide (VP > (15 : Int)))) || (decide ((VO.length : Int) > (320 : Int))))
    (
    qS.j1 K VO VP true)
    (
    (xv.m K VO).bind fun VQ =>
    qS.j1 K VO VP VQ)
def zk.j4 (K : Nat)  (VO : (List Int)) : q7 ((List Int) × (List Int)) :=
  (qS.m K VO (15 : Int)).bind fun (VP, VQ) =>
  .ok (VP, VO)
def zk.l3 (K : Nat)  : Nat → (List Int) → Int → Int → q7 ((List Int) × (List Int))
  | 0, _, _, _ => .fail
  | k + 1, VO, VQ, VP =>
    cond (decide (VQ < (2 : Int)))
      (
      zK (inb VP VO.length) <|
      cond ((rd VO VP) == (0 : Int))
        (
        lt (VO.set (Int.toNat VP) (qi ((rd VO VP) + (1 : Int)))) fun (VS : (List Int)) =>
        lt ((qi (VQ + (1 : Int)))) fun (VR : Int) =>
        lt ((qi (VP + (1 : Int)))) fun (VT : Int) =>
        zk.l3 K k VS VR VT)
        (
        lt ((qi (VP + (1 : Int)))) fun (VU : Int) =>
        zk.l3 K k VO VQ VU))
      (
      zk.j4 K VO)
def zk.j2 (K : Nat) (VO : List Int) (VP : Int) : q7 ((List Int) × (List Int)) :=
  zk.l3 K K VO VP (0 : Int)
def zk.l1 (K : Nat) (VO : List Int) : Nat → Int → Int → q7 ((List Int) × (List Int))
  | 0, _, _ => .fail
  | k + 1, VR, VP =>
    cond (decide (VP < (VO.length : Int)))
      (
      zK (inb VP VO.length) <|
      lt ((rd VO VP)) fun (VQ : Int) =>
      lt ((qi (VR + (if (1 : Int) < VQ then (1 : Int) else VQ)))) fun (VS : Int) =>
      zk.l1 K VO k VS (qi (VP + (1 : Int))))
      (
      zk.j2 K VO VR)
def zk.m (K : Nat) (VO : List Int) : q7 ((List Int) × (List Int)) :=
  zk.l1 K VO K (0 : Int) (0 : Int)
def zg.j4 (K : Nat) (g1 : (List ql) → Int → q7 (List ql)) (VQ : List Int) (VO : (List ql)) (VR : Int) (VP : Int) : q7 (List ql) :=
  zK (inb VR VQ.length) <|
  lt ((((rd VQ VR) == (0 : Int)) && (decide (VP ≥ (11 : Int))))) fun (V2 : Bool) =>
  cond V2
    (
    lt ((if (138 : Int) < VP then (138 : Int) else VP)) fun (VS : Int) =>
    zK (room (VO.length + ([(ql.mk (18 : Int) (qi (VS - (11 : Int))) (7 : Int))] : List ql).length) 24) <|
    lt (VO ++ ([(ql.mk (18 : Int) (qi (VS - (11 : Int))) (7 : Int))] : List ql)) fun (VU : (List ql)) =>
    lt ((qi (VR + VS))) fun (VY : Int) =>
    g1 VU VY)
    (
    lt ((((rd VQ VR) == (0 : Int)) && (decide (VP ≥ (3 : Int))))) fun (V3 : Bool) =>
    cond V3
      (
      zK (room (VO.length + ([(ql.mk (17 : Int) (qi (VP - (3 : Int))) (3 : Int))] : List ql).length) 24) <|
      lt (VO ++ ([(ql.mk (17 : Int) (qi (VP - (3 : Int))) (3 : Int))] : List ql)) fun (VV : (List ql)) =>
      lt ((qi (VR + VP))) fun (VZ : Int) =>
      g1 VV VZ)
      (
      lt ((decide (VP ≥ (4 : Int)))) fun (V4 : Bool) =>
      cond V4
        (
        lt ((if (7 : Int) < VP then (7 : Int) else VP)) fun (VT : Int) =>
        zK (room (VO.length + ([(ql.mk (rd VQ VR) (0 : Int) (0 : Int)), (ql.mk (16 : Int) (qi (VT - (4 : Int))) (2 : Int))] : List ql).length) 24) <|
        lt (VO ++ ([(ql.mk (rd VQ VR) (0 : Int) (0 : Int)), (ql.mk (16 : Int) (qi (VT - (4 : Int))) (2 : Int))] : List ql)) fun (VW : (List ql)) =>
        lt ((qi (VR + VT))) fun (V0 : Int) =>
        g1 VW V0)
        (
        zK (room (VO.length + ([(ql.mk (rd VQ VR) (0 : Int) (0 : Int))] : List ql).length) 24) <|
        lt (VO ++ ([(ql.mk (rd VQ VR) (0 : Int) (0 : Int))] : List ql)) fun (VX : (List ql)) =>
        lt ((qi (VR + (1 : Int)))) fun (V1 : Int) =>
        g1 VX V1)))
def zg.j3 (K : Nat) (g1 : (List ql) → Int → q7 (List ql)) (g2 : Int → q7 (List ql)) (VQ : List Int) (VP : (List ql)) (VS : Int) (VO : Int) (VT : Bool) : q7 (List ql) :=
  cond VT
    (
    lt ((qi (VO + (1 : Int)))) fun (VR : Int) =>
    g2 VR)
    (
    zg.j4 K (g1) VQ VP VS VO)
def zg.l2 (K : Nat) (g1 : (List ql) → Int → q7 (List ql)) (VO : List Int) (VQ : (List ql)) (VP : Int) : Nat → Int → q7 (List ql)
  | 0, _ => .fail
  | k + 1, VR =>
    cond (decide ((qi (VP + VR)) < (VO.length : Int)))
      (
      zK (inb (qi (VP + VR)) VO.length) <|
      zK (inb VP VO.length) <|
      zg.j3 K (g1) (zg.l2 K g1 VO VQ VP k) VO VQ VP VR ((rd VO (qi (VP + VR))) == (rd VO VP)))
      (
      zg.j3 K (g1) (zg.l2 K g1 VO VQ VP k) VO VQ VP VR false)
def zg.l1 (K : Nat) (VO : List Int) : Nat → (List ql) → Int → q7 (List ql)
  | 0, _, _ => .fail
  | k + 1, VP, VQ =>
    cond (decide (VQ < (VO.length : Int)))
      (
      zg.l2 K (zg.l1 K VO k) VO VP VQ K (1 : Int))
      (
      .ok VP)
def zg.m (K : Nat) (VO : List Int) : q7 (List ql) :=
  zg.l1 K VO K ([] : List ql) (0 : Int)
def z8.l1 (K : Nat) (VQ : qr) (VP : qy) (VU : Int) : Nat → Int → (List Int) → Int → q7 (Int × (List Int))
  | 0, _, _, _ => .fail
  | k + 1, VR, VO, VS =>
    cond (decide (VS ≥ (0 : Int)))
      (
      zK (inb VU VP.codes_.length) <|
      zK (decide (0 ≤ VS)) <|
      (qA.m K (qr.mk (qQ.mk (qs.mk VR) VO) VQ.literals_ VQ.distances_) (wr .u32 (xi .i64 (zX .i64 (rd VP.codes_ VU) VS) (1 : Int))) (1 : Int)).bind fun (VX, VV, VT) =>
      lt ((qi (VS - (1 : Int)))) fun (VW : Int) =>
      z8.l1 K VQ VP VU k VV VT VW)
      (
      .ok (VR, VO))
def z8.m (K : Nat) (VP : qr) (VO : qy) (VQ : Int) : q7 (Int × (List Int)) :=
  zK (inb VQ VO.lengths_.length) <|
  lt ((qi ((rd VO.lengths_ VQ) - (1 : Int)))) fun (VR : Int) =>
  z8.l1 K VP VO VQ K VP.Writer_.place_.at_ VP.Writer_.bytes_ VR
def qz.j12 (K : Nat) (VW : List qH) (VU : (List Int)) (VO : (List Int)) (VV : (List Int)) (VP : (List Int)) (VS : Int) (VQ : (List Int)) : q7 ((List UInt8) × Int) :=
  (zq.m K (qr.mk (qQ.mk (qs.mk VS) VQ) (qy.mk VU VO) (qy.mk VV VP)) VW).bind fun (VT, VR) =>
  (xh.m K (qr.mk (qQ.mk (qs.mk VT) VR) (qy.mk VU VO) (qy.mk VV VP))).bind fun VX =>
  .ok (VX, (0 : Int))
def qz.l11 (K : Nat) (VZ : List qH) (VV : (List Int)) (VO : (List Int)) (VW : (List Int)) (VP : (List Int)) (VT : (List ql)) (V2 : (List Int)) (VR : (List Int)) : Nat → Int → (List Int) → Int → q7 ((List UInt8) × Int)
  | 0, _, _, _ => .fail
  | k + 1, VU, VQ, VS =>
    cond (decide (VS < (VT.length : Int)))
      (
      zK (inb VS VT.length) <|
      (z8.m K (qr.mk (qQ.mk (qs.mk VU) VQ) (qy.mk VV VO) (qy.mk VW VP)) (qy.mk V2 VR) ((rd VT VS).symbol_)).bind fun (V0, VX) =>
      (qA.m K (qr.mk (qQ.mk (qs.mk V0) VX) (qy.mk VV VO) (qy.mk VW VP)) (wr .u32 (rd VT VS).more_) ((rd VT VS).bits_)).bind fun (V3, V1, VY) =>
      qz.l11 K VZ VV VO VW VP VT V2 VR k V1 VY (qi (VS + (1 : Int))))
      (
      qz.j12 K VZ VV VO VW VP VU VQ)
def qz.j10 (K : Nat) (VT : List qH) (VU : (List Int)) (VP : (List Int)) (VV : (List Int)) (VQ : (List Int)) (VW : (List ql)) (VX : (List Int)) (VR : (List Int)) (VS : Int) (VO : (List Int)) : q7 ((List UInt8) × Int) :=
  qz.l11 K VT VU VP VV VQ VW VX VR K VS VO (0 : Int)
def qz.l9 (K : Nat) (VW : List qH) (VX : (List Int)) (VO : (List Int)) (VY : (List Int)) (VP : (List Int)) (V1 : (List ql)) (VU : (List Int)) (VR : (List Int)) : Nat → Int → (List Int) → Int → q7 ((List UInt8) × Int)
  | 0, _, _, _ => .fail
  | k + 1, VS, VQ, VT =>
    cond (decide (VT < (19 : Int)))
      (
      zK (inb VT 19) <|
      lt ((rd tab_deflate_order VT)) fun (V0 : Int) =>
      zK (inb V0 VU.length) <|
      (qA.m K (qr.mk (qQ.mk (qs.mk VS) VQ) (qy.mk VX VO) (qy.mk VY VP)) (wr .u32 (rd VU V0)) (3 : Int)).bind fun (V2, VZ, VV) =>
      qz.l9 K VW VX VO VY VP V1 VU VR k VZ VV (qi (VT + (1 : Int))))
      (
      qz.j10 K VW VX VO VY VP V1 VU VR VS VQ)
def qz.j8 (K : Nat) (V3 : List qH) (VQ : (List Int)) (VO : (List Int)) (VR : (List Int)) (VP : (List Int)) (V4 : (List ql)) (VX : (List Int)) : q7 ((List UInt8) × Int) :=
  (qS.m K VX (7 : Int)).bind fun (V2, V5) =>
  (ya.m K V2).bind fun VW =>
  (qA.m K (qr.mk (qQ.mk (qs.mk (0 : Int)) ([] : List Int)) (qy.mk VQ VO) (qy.mk VR VP)) (5 : Int) (3 : Int)).bind fun (V6, VY, VS) =>
  (qA.m K (qr.mk (qQ.mk (qs.mk VY) VS) (qy.mk VQ VO) (qy.mk VR VP)) (29 : Int) (5 : Int)).bind fun (V7, VZ, VT) =>
  (qA.m K (qr.mk (qQ.mk (qs.mk VZ) VT) (qy.mk VQ VO) (qy.mk VR VP)) (29 : Int) (5 : Int)).bind fun (V8, V0, VU) =>
  (qA.m K (qr.mk (qQ.mk (qs.mk V0) VU) (qy.mk VQ VO) (qy.mk VR VP)) (15 : Int) (4 : Int)).bind fun (V9, V1, VV) =>
  qz.l9 K V3 VQ VO VR VP V4 V2 VW K V1 VV (0 : Int)
def qz.j7 (K : Nat) (VR : List qH) (VT : (List Int)) (VP : (List Int)) (VU : (List Int)) (VQ : (List Int)) (VV : (List ql)) (VO : (List Int)) (VW : Int) : q7 ((List UInt8) × Int) :=
  cond (decide (VW < (2 : Int)))
    (
    zK (inb (0 : Int) VO.length) <|
    zK (inb (1 : Int) VO.length) <|
    lt (VO.set (Int.toNat (0 : Int)) (if (1 : Int) > (rd VO (0 : Int)) then (1 : Int) else (rd VO (0 : Int)))) fun (VS : (List Int)) =>
    zK (inb (1 : Int) VS.length) <|
    lt (VS.set (Int.toNat (1 : Int)) (if (1 : Int) > (rd VO (1 : Int)) then (1 : Int) else (rd VO (1 : Int)))) fun (VX : (List Int)) =>
    qz.j8 K VR VT VP VU VQ VV VX)
    (
    qz.j8 K VR VT VP VU VQ VV VO)
def qz.l6 (K : Nat) (VT : List qH) (VV : (List Int)) (VP : (List Int)) (VW : (List Int)) (VQ : (List Int)) (VX : (List ql)) (VO : (List Int)) : Nat → Int → Int → q7 ((List UInt8) × Int)
  | 0, _, _ => .fail
  | k + 1, VU, VR =>
    cond (decide (VR < (VO.length : Int)))
      (
      zK (inb VR VO.length) <|
      lt ((rd VO VR)) fun (VS : Int) =>
      lt ((qi (VU + (if (1 : Int) < VS then (1 : Int) else VS)))) fun (VY : Int) =>
      qz.l6 K VT VV VP VW VQ VX VO k VY (qi (VR + (1 : Int))))
      (
      qz.j7 K VT VV VP VW VQ VX VO VU)
def qz.j5 (K : Nat) (VR : List qH) (VS : (List Int)) (VO : (List Int)) (VT : (List Int)) (VP : (List Int)) (VU : (List ql)) (VQ : (List Int)) : q7 ((List UInt8) × Int) :=
  qz.l6 K VR VS VO VT VP VU VQ K (0 : Int) (0 : Int)
def qz.l4 (K : Nat) (VT : List qH) (VU : (List Int)) (VQ : (List Int)) (VV : (List Int)) (VR : (List Int)) (VP : (List ql)) : Nat → (List Int) → Int → q7 ((List UInt8) × Int)
  | 0, _, _ => .fail
  | k + 1, VO, VS =>
    cond (decide (VS < (VP.length : Int)))
      (
      zK (inb VS VP.length) <|
      zK (inb (rd VP VS).symbol_ VO.length) <|
      lt (VO.set (Int.toNat (rd VP VS).symbol_) (qi ((rd VO (rd VP VS).symbol_) + (1 : Int)))) fun (VW : (List Int)) =>
      qz.l4 K VT VU VQ VV VR VP k VW (qi (VS + (1 : Int))))
      (
      qz.j5 K VT VU VQ VV VR VP VO)
def qz.j3 (K : Nat) (VV : List qH) (VP : (List Int)) (VO : (List Int)) : q7 ((List UInt8) × Int) :=
  (zk.m K VP).bind fun (VQ, VY) =>
  (ya.m K VQ).bind fun VS =>
  (zk.m K VO).bind fun (VR, VZ) =>
  (ya.m K VR).bind fun VT =>
  zK (room (([] : List Int).length + VQ.length) 8) <|
  lt (([] : List Int) ++ VQ) fun (VU : (List Int)) =>
  zK (room (VU.length + VR.length) 8) <|
  lt (VU ++ VR) fun (VW : (List Int)) =>
  (zg.m K VW).bind fun V0 =>
  zK (decide (0 ≤ (19 : Int)) && room (Int.toNat (19 : Int)) 8) <|
  lt (List.replicate (Int.toNat (19 : Int)) (0 : Int)) fun (VX : (List Int)) =>
  qz.l4 K VV VQ VS VR VT V0 K VX (0 : Int)
def qz.l2 (K : Nat) (VQ : List qH) : Nat → (List Int) → (List Int) → Int → q7 ((List UInt8) × Int)
  | 0, _, _, _ => .fail
  | k + 1, VO, VP, VR =>
    cond (decide (VR < (VQ.length : Int)))
      (
      zK (inb VR VQ.length) <|
      cond ((rd VQ VR).Dist_ == (0 : Int))
        (
        zK (inb (rd VQ VR).Lit_ VO.length) <|
        lt (VO.set (Int.toNat (rd VQ VR).Lit_) (qi ((rd VO (rd VQ VR).Lit_) + (1 : Int)))) fun (VU : (List Int)) =>
        qz.l2 K VQ k VU VP (qi (VR + (1 : Int))))
        (
        (y5.m K ((rd VQ VR).Len_)).bind fun (VS, VX, VZ) =>
        zK (inb VS VO.length) <|
        lt (VO.set (Int.toNat VS) (qi ((rd VO VS) + (1 : Int)))) fun (VV : (List Int)) =>
        (yN.m K ((rd VQ VR).Dist_)).bind fun (VT, VY, V0) =>
        zK (inb VT VP.length) <|
        lt (VP.set (Int.toNat VT) (qi ((rd VP VT) + (1 : Int)))) fun (VW : (List Int)) =>
        qz.l2 K VQ k VV VW (qi (VR + (1 : Int)))))
      (
      qz.j3 K VQ VO VP)
def qz.j1 (K : Nat) (VQ : List qH) (VO : (List Int)) (VP : (List Int)) : q7 ((List UInt8) × Int) :=
  zK (inb (256 : Int) VO.length) <|
  lt (VO.set (Int.toNat (256 : Int)) (qi ((rd VO (256 : Int)) + (1 : Int)))) fun (VR : (List Int)) =>
  qz.l2 K VQ K VR VP (0 : Int)
def qz.m (K : Nat) (VO : List qH) : q7 ((List UInt8) × Int) :=
  (jD.m K VO).bind fun VR =>
  cond (!VR)
    (
    .ok (([] : List UInt8), (1 : Int)))
    (
    zK (decide (0 ≤ (286 : Int)) && room (Int.toNat (286 : Int)) 8) <|
    lt (List.replicate (Int.toNat (286 : Int)) (0 : Int)) fun (VP : (List Int)) =>
    zK (decide (0 ≤ (30 : Int)) && room (Int.toNat (30 : Int)) 8) <|
    lt (List.replicate (Int.toNat (30 : Int)) (0 : Int)) fun (VQ : (List Int)) =>
    qz.j1 K VO VP VQ)
def xH.j1 (K : Nat) (VR : (List qH)) (VO : List UInt8) : q7 (List UInt8) :=
  (qz.m K VR).bind fun (VP, VQ) =>
  cond ((VQ == (0 : Int)) && (decide ((VP.length : Int) < (VO.length : Int))))
    (
    .ok VP)
    (
    .ok VO)
def xH.m (K : Nat) (VQ : List UInt8) : q7 (List UInt8) :=
  (z4.m K VQ).bind fun VP =>
  (zT.m K VQ).bind fun VS =>
  (vk.m K VP).bind fun (VO, VR) =>
  cond ((VR == (0 : Int)) && (decide ((VO.length : Int) < (VS.length : Int))))
    (
    xH.j1 K VP VO)
    (
    xH.j1 K VP VS)
def QQ.m (K : Nat) (VP : List UInt8) : q7 (List UInt8) :=
  (vG.m K VP).bind fun VS =>
  (xE.m K (wr .u64 VS) (4 : Int)).bind fun (VR, VT) =>
  (xH.m K VP).bind fun VO =>
  zK (uV (([120, 156] : List UInt8).length + VO.length)) <|
  zK (uV ((([120, 156] : List UInt8) ++ VO).length + VR.length)) <|
  lt (((([120, 156] : List UInt8) ++ VO) ++ VR)) fun (VQ : List UInt8) =>
  .ok VQ
def xU.l1 (K : Nat) (VO : List UInt8) : Nat → Int → q7 Bool
  | 0, _ => .fail
  | k + 1, VP =>
    cond (decide (VP < (VO.length : Int)))
      (
      zK (inb VP VO.length) <|
      lt ((uk .u8 ((rd VO VP).toNat : Int) (32 : Int))) fun (VQ : Int) =>
      cond ((decide (VQ < (97 : Int))) || (decide (VQ > (122 : Int))))
        (
        .ok false)
        (
        xU.l1 K VO k (qi (VP + (1 : Int)))))
      (
      lt (((VO.length : Int) == (4 : Int))) fun (VR : Bool) =>
      .ok VR)
def xU.m (K : Nat) (VO : List UInt8) : q7 Bool :=
  xU.l1 K VO K (0 : Int)
def xY.l1 (K : Nat) (VQ : List UInt8) : Nat → Int → Int → q7 Int
  | 0, _, _ => .fail
  | k + 1, VS, VR =>
    cond (decide (VR < (VQ.length : Int)))
      (
      zK (inb VR VQ.length) <|
      lt ((jG .u32 VS (wr .u32 ((rd VQ VR).toNat : Int)))) fun (VO : Int) =>
      zK (inb (xi .u32 VO (15 : Int)) 16) <|
      lt ((jG .u32 (zX .u32 VO (4 : Int)) (rd tab_sums_half (xi .u32 VO (15 : Int))))) fun (VP : Int) =>
      zK (inb (xi .u32 VP (15 : Int)) 16) <|
      lt ((jG .u32 (zX .u32 VP (4 : Int)) (rd tab_sums_half (xi .u32 VP (15 : Int))))) fun (VT : Int) =>
      xY.l1 K VQ k VT (qi (VR + (1 : Int))))
      (
      lt ((vW .u32 VS)) fun (VU : Int) =>
      .ok VU)
def xY.m (K : Nat) (VO : Int) (VQ : List UInt8) : q7 Int :=
  lt ((vW .u32 VO)) fun (VP : Int) =>
  xY.l1 K VQ K VP (0 : Int)
def vw.m (K : Nat) (VO : List UInt8) : q7 Int :=
  (xY.m K (0 : Int) VO).bind fun VP =>
  .ok VP
def yo.j2 (K : Nat) (VP : List qd) (VO : (List Int)) : q7 ((List UInt8) × Int) :=
  cond ((VP.length : Int) == (0 : Int))
    (
    .ok (([] : List UInt8), (1 : Int)))
    (
    (xD.m K VO).bind fun VQ =>
    .ok (VQ, (0 : Int)))
def yo.l1 (K : Nat) (VO : List qd) : Nat → (List Int) → Int → q7 ((List UInt8) × Int)
  | 0, _, _ => .fail
  | k + 1, VQ, VP =>
    cond (decide (VP < (VO.length : Int)))
      (
      zK (inb VP VO.length) <|
      (xU.m K ((rd VO VP).Type_)).bind fun VU =>
      cond (((!VU) || (decide ((((rd VO VP).Data_).length : Int) > (2147483647 : Int)))) || (!(((rd VO VP).Type_ == ([73, 69, 78, 68] : List UInt8)) == (VP == (qi ((VO.length : Int) - (1 : Int)))))))
        (
        .ok (([] : List UInt8), (1 : Int)))
        (
        (jm.m K (wr .u64 (((rd VO VP).Data_).length : Int))).bind fun VR =>
        zK (uV (VR.length + ((rd VO VP).Type_).length)) <|
        zK (uV ((VR ++ (rd VO VP).Type_).length + ((rd VO VP).Data_).length)) <|
        (zQ.m K VQ ((VR ++ (rd VO VP).Type_) ++ (rd VO VP).Data_)).bind fun (VY, VS) =>
        (vw.m K ((rd VO VP).Type_)).bind fun VV =>
        (xY.m K VV ((rd VO VP).Data_)).bind fun VW =>
        (jm.m K (wr .u64 VW)).bind fun VX =>
        (zQ.m K VS VX).bind fun (VZ, VT) =>
        yo.l1 K VO k VT (qi (VP + (1 : Int)))))
      (
      yo.j2 K VO VQ)
def yo.m (K : Nat) (VP : List qd) : q7 ((List UInt8) × Int) :=
  (zQ.m K ([] : List Int) ([137, 80, 78, 71, 13, 10, 26, 10] : List UInt8)).bind fun (VQ, VO) =>
  yo.l1 K VP K VO (0 : Int)
def zJ.j5 (K : Nat) (VP : (List Int)) (VO : List UInt8) : q7 ((List UInt8) × Int) :=
  (xD.m K VP).bind fun VT =>
  (QQ.m K VT).bind fun VQ =>
  (yo.m K ([(qd.mk ([73, 72, 68, 82] : List UInt8) VO), (qd.mk ([73, 68, 65, 84] : List UInt8) VQ), (qd.mk ([73, 69, 78, 68] : List UInt8) ([] : List UInt8))] : List qd)).bind fun (VR, VS) =>
  .ok (VR, VS)
def zJ.j4 (K : Nat) (m8 : xk) (VO : Int) (VQ : (List Int)) : q7 ((List UInt8) × Int) :=
  (jm.m K (wr .u64 m8.W_)).bind fun VR =>
  (jm.m K (wr .u64 m8.H_)).bind fun VS =>
  zK (uV (VR.length + VS.length)) <|
  zK (uV ((VR ++ VS).length + (([(8 : Int), VO, (0 : Int), (0 : Int), (0 : Int)] : List Int).map jo).length)) <|
  lt (((VR ++ VS) ++ (([(8 : Int), VO, (0 : Int), (0 : Int), (0 : Int)] : List Int).map jo))) fun (VP : List UInt8) =>
  zJ.j5 K VQ VP
def zJ.l3 (K : Nat) (m8 : xk) (VR : Int) (VP : Int) : Nat → (List Int) → (List UInt8) → q7 ((List UInt8) × Int)
  | 0, _, _ => .fail
  | k + 1, VQ, VO =>
    cond (!(VO == ([] : List UInt8)))
      (
      (x7.m K VQ (0 : Int)).bind fun VT =>
      zK (subok (0 : Int) VP VO.length) <|
      (zQ.m K VT (sub VO (0 : Int) VP)).bind fun (VV, VU) =>
      zK (subok VP (VO.length : Int) VO.length) <|
      lt ((sub VO VP (VO.length : Int))) fun (VS : List UInt8) =>
      zJ.l3 K m8 VR VP k VU VS)
      (
      zJ.j4 K m8 VR VQ)
def zJ.j2 (K : Nat) (m8 : xk) (VO : Int) : q7 ((List UInt8) × Int) :=
  lt ((qi (m8.W_ * m8.Samples_))) fun (VP : Int) =>
  zJ.l3 K m8 VO VP K ([] : List Int) m8.Pixels_
def zJ.l1 (K : Nat) (m8 : xk) : Nat → Int → Int → q7 ((List UInt8) × Int)
  | 0, _, _ => .fail
  | k + 1, VO, VQ =>
    cond (decide (VQ < (3 : Int)))
      (
      zK (inb VQ 3) <|
      cond ((rd tab_png_colors VQ).samples_ == m8.Samples_)
        (
        lt ((rd tab_png_colors VQ).kind_) fun (VP : Int) =>
        zJ.l1 K m8 k VP (qi (VQ + (1 : Int))))
        (
        zJ.l1 K m8 k VO (qi (VQ + (1 : Int)))))
      (
      zJ.j2 K m8 VO)
def zJ.m (K : Nat) (m8 : xk) : q7 ((List UInt8) × Int) :=
  (xK.m K m8).bind fun VO =>
  cond (!VO)
    (
    .ok (([] : List UInt8), (1 : Int)))
    (
    zJ.l1 K m8 K (0 : Int) (0 : Int))
def xn.m (K : Nat) (VP : List UInt8) (VO : List UInt8) : q7 Bool :=
  zK (Jc true (decide ((VP.length : Int) ≥ (VO.length : Int))) (subok (0 : Int) (VO.length : Int) VP.length)) <|
  lt (((decide ((VP.length : Int) ≥ (VO.length : Int))) && ((sub VP (0 : Int) (VO.length : Int)) == VO))) fun (VQ : Bool) =>
  .ok VQ
def yF.m (K : Nat) (VP : List UInt8) (VO : List UInt8) : q7 Bool :=
  (xn.m K VP VO).bind fun VQ =>
  .ok VQ
def uv.m (K : Nat) (VO : List UInt8) : q7 Unit :=
  .ok ()
def x2.m (K : Nat) (VP : ze) (VO : Int) (VQ : Int) : q7 ((List UInt8) × Int × Int) :=
  cond ((decide (VO < (0 : Int))) || (decide (VQ < (0 : Int))))
    (
    .ok (([] : List UInt8), (0 : Int), (1 : Int)))
    (
    cond ((decide (VO > (VP.text_.length : Int))) || (decide (VQ > (qi ((VP.text_.length : Int) - VO)))))
      (
      .ok (([] : List UInt8), (0 : Int), (2 : Int)))
      (
      zK (subok VO (qi (VO + VQ)) VP.text_.length) <|
      .ok ((sub VP.text_ VO (qi (VO + VQ))), (qi (VP.base_ + VO)), (0 : Int))))
def zi.l1 (K : Nat) (VO : Int) (VP : List UInt8) : Nat → Int → Int → q7 (Int × Int)
  | 0, _, _ => .fail
  | k + 1, VR, VQ =>
    cond (decide (VQ < VO))
      (
      (yp.m K VQ VO).bind fun VS =>
      zK (inb VS VP.length) <|
      zK (decide (0 ≤ (qi ((8 : Int) * VQ)))) <|
      lt ((uk .u64 VR (z1 .u64 (wr .u64 ((rd VP VS).toNat : Int)) (qi ((8 : Int) * VQ))))) fun (VT : Int) =>
      zi.l1 K VO VP k VT (qi (VQ + (1 : Int))))
      (
      .ok (VR, (0 : Int)))
def zi.m (K : Nat) (VS : ze) (VQ : Int) (VO : Int) : q7 (Int × Int) :=
  (jv.m K VO).bind fun VU =>
  cond (!VU)
    (
    .ok ((0 : Int), (1 : Int)))
    (
    (x2.m K VS VQ VO).bind fun (VP, VT, VR) =>
    cond (VR != (0 : Int))
      (
      .ok ((0 : Int), VR))
      (
      (yM.m K VO).bind fun _ =>
      zi.l1 K VO VP K (0 : Int) (0 : Int)))
def xx.m (K : Nat) (VO : ze) : q7 Unit :=
  .ok ()
def z5.j2 (K : Nat) (g1 : (List qd) → Int → q7 ((List qd) × Int)) (VW : List UInt8) (VV : (List qd)) (VS : Int) (VY : Int) (VP : List UInt8) (VQ : Int) (V1 : Bool) : q7 ((List qd) × Int) :=
  cond V1
    (
    .ok (([] : List qd), (3 : Int)))
    (
    (x2.m K (ze.mk VW (0 : Int)) (qi (VS + (4 : Int))) (qi ((4 : Int) + (wr .i64 VY)))).bind fun (VO, VR, VZ) =>
    cond (VZ != (0 : Int))
      (
      .ok (([] : List qd), VZ))
      (
      lt ((qi (VS + (qi ((8 : Int) + (wr .i64 VY)))))) fun (VT : Int) =>
      (zi.m K (ze.mk VW (0 : Int)) VT (4 : Int)).bind fun (V4, V0) =>
      lt ((V0 != (0 : Int))) fun (V2 : Bool) =>
      cond V2
        (
        .ok (([] : List qd), V0))
        (
        (xx.m K (ze.mk VO VR)).bind fun _ =>
        (vw.m K VO).bind fun V5 =>
        lt (((wr .u32 V4) != V5)) fun (V3 : Bool) =>
        cond V3
          (
          .ok (([] : List qd), (4 : Int)))
          (
          lt ((qi (VT + (4 : Int)))) fun (VU : Int) =>
          (xx.m K (ze.mk VP VQ)).bind fun _ =>
          (xx.m K (ze.mk VO VR)).bind fun _ =>
          zK (subok (4 : Int) (VO.length : Int) VO.length) <|
          zK (room (VV.length + ([(qd.mk VP (sub VO (4 : Int) (VO.length : Int)))] : List qd).length) 32) <|
          lt (VV ++ ([(qd.mk VP (sub VO (4 : Int) (VO.length : Int)))] : List qd)) fun (VX : (List qd)) =>
          (xx.m K (ze.mk VP VQ)).bind fun _ =>
          cond (!(VP == ([73, 69, 78, 68] : List UInt8)))
            (
            g1 VX VU)
            (
            cond (decide (VU < (VW.length : Int)))
              (
              .ok (([] : List qd), (3 : Int)))
              (
              .ok (VX, (0 : Int))))))))
def z5.l1 (K : Nat) (VR : List UInt8) : Nat → (List qd) → Int → q7 ((List qd) × Int)
  | 0, _, _ => .fail
  | k + 1, VS, VP =>
    (zi.m K (ze.mk VR (0 : Int)) VP (4 : Int)).bind fun (VT, VU) =>
    cond (VU != (0 : Int))
      (
      .ok (([] : List qd), VU))
      (
      (x2.m K (ze.mk VR (0 : Int)) (qi (VP + (4 : Int))) (4 : Int)).bind fun (VO, VQ, VV) =>
      lt ((VV != (0 : Int))) fun (VW : Bool) =>
      cond VW
        (
        .ok (([] : List qd), VV))
        (
        cond (decide (VT > (2147483647 : Int)))
          (
          z5.j2 K (z5.l1 K VR k) VR VS VP VT VO VQ true)
          (
          (xx.m K (ze.mk VO VQ)).bind fun _ =>
          (xU.m K VO).bind fun VX =>
          z5.j2 K (z5.l1 K VR k) VR VS VP VT VO VQ (!VX))))
def z5.m (K : Nat) (VO : List UInt8) : q7 ((List qd) × Int) :=
  cond (decide ((VO.length : Int) < (8 : Int)))
    (
    .ok (([] : List qd), (2 : Int)))
    (
    (yF.m K VO ([137, 80, 78, 71, 13, 10, 26, 10] : List UInt8)).bind fun VP =>
    cond (!VP)
      (
      .ok (([] : List qd), (3 : Int)))
      (
      (uv.m K VO).bind fun _ =>
      z5.l1 K VO K ([] : List qd) (8 : Int)))
def xX.j2 (K : Nat) (VP : qd) (VQ : Int) (VR : Int) (VO : Int) : q7 (Int × Int × Int × Int) :=
  zK (inb (8 : Int) VP.Data_.length) <|
  zK (Jc false ((((rd VP.Data_ (8 : Int)).toNat : Int) != (8 : Int)) || (VO == (0 : Int))) (subok (10 : Int) (VP.Data_.length : Int) VP.Data_.length)) <|
  lt ((((((((rd VP.Data_ (8 : Int)).toNat : Int) != (8 : Int)) || (VO == (0 : Int))) || (!((sub VP.Data_ (10 : Int) (VP.Data_.length : Int)) == ([0, 0, 0] : List UInt8)))) || (VQ == (0 : Int))) || (VR == (0 : Int)))) fun (VS : Bool) =>
  cond VS
    (
    .ok ((0 : Int), (0 : Int), (0 : Int), (3 : Int)))
    (
    lt ((((decide (VQ > (4096 : Int))) || (decide (VR > (4096 : Int)))) || (decide ((qi ((qi ((wr .i64 VQ) * (wr .i64 VR))) * VO)) > (16777216 : Int))))) fun (VT : Bool) =>
    cond VT
      (
      .ok ((0 : Int), (0 : Int), (0 : Int), (11 : Int)))
      (
      .ok ((wr .i64 VQ), (wr .i64 VR), VO, (0 : Int))))
def xX.l1 (K : Nat) (VP : qd) (VR : Int) (VS : Int) : Nat → Int → Int → q7 (Int × Int × Int × Int)
  | 0, _, _ => .fail
  | k + 1, VO, VQ =>
    cond (decide (VQ < (3 : Int)))
      (
      zK (inb VQ 3) <|
      zK (inb (9 : Int) VP.Data_.length) <|
      cond ((rd tab_png_colors VQ).kind_ == ((rd VP.Data_ (9 : Int)).toNat : Int))
        (
        xX.l1 K VP VR VS k ((rd tab_png_colors VQ).samples_) (qi (VQ + (1 : Int))))
        (
        xX.l1 K VP VR VS k VO (qi (VQ + (1 : Int)))))
      (
      xX.j2 K VP VR VS VO)
def xX.m (K : Nat) (VO : qd) : q7 (Int × Int × Int × Int) :=
  cond ((!(VO.Type_ == ([73, 72, 68, 82] : List UInt8))) || ((VO.Data_.length : Int) != (13 : Int)))
    (
    .ok ((0 : Int), (0 : Int), (0 : Int), (3 : Int)))
    (
    (uv.m K VO.Data_).bind fun _ =>
    (zi.m K (ze.mk VO.Data_ (0 : Int)) (0 : Int) (4 : Int)).bind fun (VP, VR) =>
    (zi.m K (ze.mk VO.Data_ (0 : Int)) (4 : Int) (4 : Int)).bind fun (VQ, VS) =>
    xX.l1 K VO VP VQ K (0 : Int) (0 : Int))
def zG.j3 (K : Nat) (g1 : (List Int) → Int → Int → q7 ((List UInt8) × Bool)) (VQ : List qd) (VR : (List Int)) (VO : Int) (VP : Int) (VS : Bool) : q7 ((List UInt8) × Bool) :=
  cond VS
    (
    .ok (([] : List UInt8), false))
    (
    zK (inb (0 : Int) ((rd VQ VP).Type_).length) <|
    lt ((((decide (((rd ((rd VQ VP).Type_) (0 : Int)).toNat : Int) ≤ (90 : Int))) && (!((rd VQ VP).Type_ == ([80, 76, 84, 69] : List UInt8)))) && (!((rd VQ VP).Type_ == ([73, 69, 78, 68] : List UInt8))))) fun (VT : Bool) =>
    cond VT
      (
      .ok (([] : List UInt8), false))
      (
      cond (VO == (1 : Int))
        (
        g1 VR (2 : Int) (qi (VP + (1 : Int))))
        (
        g1 VR VO (qi (VP + (1 : Int))))))
def zG.j2 (K : Nat) (g1 : (List Int) → Int → Int → q7 ((List UInt8) × Bool)) (VQ : List qd) (VP : (List Int)) (VO : Int) (VR : Int) (VT : Bool) (VS : Bool) : q7 ((List UInt8) × Bool) :=
  zG.j3 K (g1) VQ VP VO VR VS
def zG.j4 (K : Nat)  (VP : (List Int)) (VO : Int) : q7 ((List UInt8) × Bool) :=
  (xD.m K VP).bind fun VR =>
  lt ((decide (VO > (0 : Int)))) fun (VQ : Bool) =>
  .ok (VR, VQ)
def zG.l1 (K : Nat) (VO : List qd) : Nat → (List Int) → Int → Int → q7 ((List UInt8) × Bool)
  | 0, _, _, _ => .fail
  | k + 1, VR, VP, VQ =>
    cond (decide (VQ < (VO.length : Int)))
      (
      zK (inb VQ VO.length) <|
      lt ((((rd VO VQ).Type_ == ([73, 68, 65, 84] : List UInt8)) && (decide (VP < (2 : Int))))) fun (VT : Bool) =>
      cond VT
        (
        (zQ.m K VR ((rd VO VQ).Data_)).bind fun (VU, VS) =>
        zG.l1 K VO k VS (1 : Int) (qi (VQ + (1 : Int))))
        (
        cond (((rd VO VQ).Type_ == ([73, 68, 65, 84] : List UInt8)) || ((rd VO VQ).Type_ == ([73, 72, 68, 82] : List UInt8)))
          (
          zG.j3 K (zG.l1 K VO k) VO VR VP VQ true)
          (
          cond ((rd VO VQ).Type_ == ([73, 69, 78, 68] : List UInt8))
            (
            zG.j2 K (zG.l1 K VO k) VO VR VP VQ true (!((rd VO VQ).Data_ == ([] : List UInt8))))
            (
            zG.j2 K (zG.l1 K VO k) VO VR VP VQ false false))))
      (
      zG.j4 K VR VP)
def zG.m (K : Nat) (VO : List qd) : q7 ((List UInt8) × Bool) :=
  zG.l1 K VO K ([] : List Int) (0 : Int) (0 : Int)
def Qx.m (K : Nat) (VO : List UInt8) : q7 Unit :=
  .ok ()
def zR.j2 (K : Nat) (VP : qE) (VO : Int) (VQ : Int) : q7 (Int × Int × Int) :=
  zK (decide (0 ≤ (xi .i64 VP.place_.at_ (7 : Int)))) <|
  lt ((zX .u64 VQ (xi .i64 VP.place_.at_ (7 : Int)))) fun (VR : Int) =>
  zK (decide (0 ≤ VO)) <|
  lt ((wr .u32 (xi .u64 VR (wr .u64 ((z1 .u64 (1 : Int) VO) - (1 : Int)))))) fun (VS : Int) =>
  .ok (VS, (0 : Int), (qi (VP.place_.at_ + VO)))
def zR.l1 (K : Nat) (VQ : qE) (VR : Int) (VO : Int) : Nat → Int → Int → q7 (Int × Int × Int)
  | 0, _, _ => .fail
  | k + 1, VS, VP =>
    cond (decide ((qi ((8 : Int) * (qi (VO + VP)))) < (qi (VQ.place_.at_ + VR))))
      (
      zK (inb (qi (VO + VP)) VQ.text_.length) <|
      zK (decide (0 ≤ (qi ((8 : Int) * VP)))) <|
      lt ((uk .u64 VS (z1 .u64 (wr .u64 ((rd VQ.text_ (qi (VO + VP))).toNat : Int)) (qi ((8 : Int) * VP))))) fun (VU : Int) =>
      lt ((qi (VP + (1 : Int)))) fun (VT : Int) =>
      zR.l1 K VQ VR VO k VU VT)
      (
      zR.j2 K VQ VR VS)
def zR.m (K : Nat) (VO : qE) (VP : Int) : q7 (Int × Int × Int) :=
  lt (((decide (VP < (0 : Int))) || (decide (VP > (32 : Int))))) fun (VR : Bool) =>
  cond VR
    (
    .ok ((0 : Int), (1 : Int), VO.place_.at_))
    (
    lt ((decide (VP > (qi ((qi ((8 : Int) * (VO.text_.length : Int))) - VO.place_.at_))))) fun (VS : Bool) =>
    cond VS
      (
      .ok ((0 : Int), (2 : Int), VO.place_.at_))
      (
      lt ((x5 .i64 VO.place_.at_ (8 : Int))) fun (VQ : Int) =>
      zR.l1 K VO VP VQ K (0 : Int) (0 : Int)))
def yO.m (K : Nat) (VO : Int) : q7 Unit :=
  cond (VO != (0 : Int))
    (
    .pan (.iface x8 (.agg ⟨[.int .i64 VO]⟩)))
    (
    .ok ())
def zB.m (K : Nat) (VQ : qw) (VP : Int) : q7 (Int × Int) :=
  (zR.m K VQ.Reader_ VP).bind fun (VS, VT, VO) =>
  (yO.m K VT).bind fun _ =>
  lt ((wr .i64 VS)) fun (VR : Int) =>
  .ok (VR, VO)
def xR.m (K : Nat) (VO : qE) : q7 Int :=
  .ok (ZW .i64 (qi (VO.place_.at_ + (7 : Int))) (7 : Int))
def yC.m (K : Nat) (VR : qE) (VP : Int) : q7 ((List UInt8) × Int × Int) :=
  cond (decide (VP < (0 : Int)))
    (
    .ok (([] : List UInt8), (1 : Int), VR.place_.at_))
    (
    (xR.m K VR).bind fun VO =>
    zK (subok (x5 .i64 VO (8 : Int)) (VR.text_.length : Int) VR.text_.length) <|
    lt ((sub VR.text_ (x5 .i64 VO (8 : Int)) (VR.text_.length : Int))) fun (VQ : List UInt8) =>
    cond (decide (VP > (VQ.length : Int)))
      (
      .ok (([] : List UInt8), (2 : Int), VO))
      (
      zK (subok (0 : Int) VP VQ.length) <|
      lt ((sub VQ (0 : Int) VP)) fun (VS : List UInt8) =>
      .ok (VS, (0 : Int), (qi (VO + (qi ((8 : Int) * VP)))))))
def zN.m (K : Nat) (VO : Bool) (VP : Int) : q7 Unit :=
  cond VO
    (
    .pan (.iface x8 (.agg ⟨[.int .i64 VP]⟩)))
    (
    .ok ())
def yB.m (K : Nat) (VP : qw) : q7 (Int × (List Int)) :=
  (yC.m K VP.Reader_ (4 : Int)).bind fun (VO, VV, VR) =>
  (yO.m K VV).bind fun _ =>
  zK (inb (0 : Int) VO.length) <|
  zK (inb (1 : Int) VO.length) <|
  lt ((uk .i64 (wr .i64 ((rd VO (0 : Int)).toNat : Int)) (z1 .i64 (wr .i64 ((rd VO (1 : Int)).toNat : Int)) (8 : Int)))) fun (VQ : Int) =>
  zK (inb (2 : Int) VO.length) <|
  zK (inb (3 : Int) VO.length) <|
  (zN.m K ((uk .i64 (wr .i64 ((rd VO (2 : Int)).toNat : Int)) (z1 .i64 (wr .i64 ((rd VO (3 : Int)).toNat : Int)) (8 : Int))) != (jG .i64 VQ (65535 : Int))) (3 : Int)).bind fun _ =>
  (yC.m K (qE.mk (qs.mk VR) VP.Reader_.text_) VQ).bind fun (VT, VW, VS) =>
  (yO.m K VW).bind fun _ =>
  (zN.m K (decide ((qi ((VP.out_.length : Int) + VQ)) > VP.limit_)) (11 : Int)).bind fun _ =>
  zK (room (VP.out_.length + VT.length) 1) <|
  lt (VP.out_ ++ VT.map X1) fun (VU : (List Int)) =>
  .ok (VS, VU)
def x1.l2 (K : Nat) (g1 : (List Int) → Int → q7 ((Option qF) × Int)) (VO : List Int) (VR : Int) : Nat → (List Int) → Int → q7 ((Option qF) × Int)
  | 0, _, _ => .fail
  | k + 1, VP, VQ =>
    cond (decide (VQ < (VO.length : Int)))
      (
      zK (inb VQ VO.length) <|
      lt ((rd VO VQ)) fun (VS : Int) =>
      cond (VS == VR)
        (
        zK (room (VP.length + ([VQ] : List Int).length) 8) <|
        lt (VP ++ ([VQ] : List Int)) fun (VU : (List Int)) =>
        x1.l2 K g1 VO VR k VU (qi (VQ + (1 : Int))))
        (
        x1.l2 K g1 VO VR k VP (qi (VQ + (1 : Int)))))
      (
      lt ((qi (VR + (1 : Int)))) fun (VT : Int) =>
      g1 VP VT)
def x1.l1 (K : Nat) (VO : List Int) (VR : (List Int)) : Nat → (List Int) → Int → q7 ((Option qF) × Int)
  | 0, _, _ => .fail
  | k + 1, VP, VQ =>
    cond (decide (VQ ≤ (15 : Int)))
      (
      x1.l2 K (x1.l1 K VO VR k) VO VQ K VP (0 : Int))
      (
      .ok ((some (qF.mk VR VP)), (0 : Int)))
def x1.m (K : Nat) (VO : List Int) : q7 ((Option qF) × Int) :=
  (xL.m K VO).bind fun VP =>
  cond (VP != (0 : Int))
    (
    .ok (none, VP))
    (
    (xB.m K VO).bind fun (VQ, VR) =>
    x1.l1 K VO VQ K ([] : List Int) (1 : Int))
def yd.m (K : Nat) (VO : List Int) : q7 (Option qF) :=
  (x1.m K VO).bind fun (VP, VQ) =>
  (zN.m K (VQ != (0 : Int)) (3 : Int)).bind fun _ =>
  .ok VP
def zl.j2 (K : Nat) (g1 : (List Int) → Int → q7 ((Option qF) × (Option qF))) (VO : Int) (VP : (List Int)) : q7 ((Option qF) × (Option qF)) :=
  cond ((decide (VO ≥ (256 : Int))) && (decide (VO < (280 : Int))))
    (
    lt (VP.set (Int.toNat VO) (7 : Int)) fun (VQ : (List Int)) =>
    g1 VQ (qi (VO + (1 : Int))))
    (
    g1 VP (qi (VO + (1 : Int))))
def zl.j5 (K : Nat) (VO : (List Int)) (VP : (List Int)) : q7 ((Option qF) × (Option qF)) :=
  (yd.m K VO).bind fun VQ =>
  (yd.m K VP).bind fun VR =>
  .ok (VQ, VR)
def zl.l4 (K : Nat) (VP : (List Int)) : Nat → (List Int) → Int → q7 ((Option qF) × (Option qF))
  | 0, _, _ => .fail
  | k + 1, VQ, VO =>
    cond (decide (VO < (32 : Int)))
      (
      zK (inb VO 32) <|
      lt (VQ.set (Int.toNat VO) (5 : Int)) fun (VR : (List Int)) =>
      zl.l4 K VP k VR (qi (VO + (1 : Int))))
      (
      zl.j5 K VP VQ)
def zl.j3 (K : Nat)  (VO : (List Int)) : q7 ((Option qF) × (Option qF)) :=
  zl.l4 K VO K (List.replicate 32 (0 : Int)) (0 : Int)
def zl.l1 (K : Nat)  : Nat → (List Int) → Int → q7 ((Option qF) × (Option qF))
  | 0, _, _ => .fail
  | k + 1, VP, VO =>
    cond (decide (VO < (288 : Int)))
      (
      zK (inb VO 288) <|
      lt (VP.set (Int.toNat VO) (8 : Int)) fun (VQ : (List Int)) =>
      cond ((decide (VO ≥ (144 : Int))) && (decide (VO < (256 : Int))))
        (
        lt (VQ.set (Int.toNat VO) (9 : Int)) fun (VR : (List Int)) =>
        zl.j2 K (zl.l1 K k) VO VR)
        (
        zl.j2 K (zl.l1 K k) VO VQ))
      (
      zl.j3 K VP)
def zl.m (K : Nat) : q7 ((Option qF) × (Option qF)) :=
  zl.l1 K K (List.replicate 288 (0 : Int)) (0 : Int)
def xa.j2 (K : Nat) (VO : qE) (VP : Int) : q7 (Int × Int × Int) :=
  .ok ((0 : Int), (3 : Int), VO.place_.at_)
def xa.l1 (K : Nat) (VR : qF) (VX : qE) : Nat → Int → Int → Int → Int → Int → q7 (Int × Int × Int)
  | 0, _, _, _, _, _ => .fail
  | k + 1, VV, V0, VY, VO, VT =>
    cond (decide (VO < (VR.symbols_.length : Int)))
      (
      (zR.m K (qE.mk (qs.mk VV) VX.text_) (1 : Int)).bind fun (V4, V1, VW) =>
      cond (V1 != (0 : Int))
        (
        .ok ((0 : Int), V1, VX.place_.at_))
        (
        lt ((uk .i64 (z1 .i64 V0 (1 : Int)) (wr .i64 V4))) fun (VQ : Int) =>
        lt ((z1 .i64 VY (1 : Int))) fun (VP : Int) =>
        zK (inb VT 16) <|
        lt ((rd VR.counts_ VT)) fun (VS : Int) =>
        cond (decide ((qi (VQ - VP)) < VS))
          (
          zK (inb (qi ((qi (VO + VQ)) - VP)) VR.symbols_.length) <|
          lt ((rd VR.symbols_ (qi ((qi (VO + VQ)) - VP)))) fun (V3 : Int) =>
          .ok (V3, (0 : Int), VW))
          (
          lt ((qi (VP + VS))) fun (VZ : Int) =>
          lt ((qi (VO + VS))) fun (VU : Int) =>
          lt ((qi (VT + (1 : Int)))) fun (V2 : Int) =>
          xa.l1 K VR VX k VW VQ VZ VU V2)))
      (
      xa.j2 K VX VV)
def xa.m (K : Nat) (VP : qF) (VO : qE) : q7 (Int × Int × Int) :=
  xa.l1 K VP VO K VO.place_.at_ (0 : Int) (0 : Int) (0 : Int) (1 : Int)
def xJ.m (K : Nat) (VP : qw) (VQ : qF) : q7 (Int × Int) :=
  (xa.m K VQ VP.Reader_).bind fun (VR, VS, VO) =>
  (yO.m K VS).bind fun _ =>
  .ok (VR, VO)
def yt.m (K : Nat) (VQ : qw) (VP : xc) : q7 (Int × Int) :=
  (zB.m K VQ VP.bits_).bind fun (VS, VO) =>
  lt ((qi (VP.from_ + VS))) fun (VR : Int) =>
  .ok (VR, VO)
def zj.l2 (K : Nat) (g1 : Int → (List Int) → q7 (Int × (List Int))) (VS : Int) (VQ : Int) (VP : Int) : Nat → (List Int) → Int → q7 (Int × (List Int))
  | 0, _, _ => .fail
  | k + 1, VO, VR =>
    cond (decide (VR < VS))
      (
      zK (inb (qi ((VO.length : Int) - VQ)) VO.length) <|
      zK (room (VO.length + ([(rd VO (qi ((VO.length : Int) - VQ)))] : List Int).length) 1) <|
      lt (VO ++ ([(rd VO (qi ((VO.length : Int) - VQ)))] : List Int)) fun (VT : (List Int)) =>
      zj.l2 K g1 VS VQ VP k VT (qi (VR + (1 : Int))))
      (
      g1 VP VO)
def zj.l1 (K : Nat) (VQ : qw) (VP : qF) (VS : qF) : Nat → Int → (List Int) → q7 (Int × (List Int))
  | 0, _, _ => .fail
  | k + 1, VV, VO =>
    (xJ.m K (qw.mk (qE.mk (qs.mk VV) VQ.Reader_.text_) VO VQ.limit_) VP).bind fun (VR, VT) =>
    lt ((VR == (256 : Int))) fun (V2 : Bool) =>
    cond V2
      (
      .ok (VT, VO))
      (
      lt ((decide (VR < (256 : Int)))) fun (V3 : Bool) =>
      cond V3
        (
        (zN.m K ((VO.length : Int) == VQ.limit_) (11 : Int)).bind fun _ =>
        zK (room (VO.length + ([(wr .u8 VR)] : List Int).length) 1) <|
        lt (VO ++ ([(wr .u8 VR)] : List Int)) fun (V1 : (List Int)) =>
        zj.l1 K VQ VP VS k VT V1)
        (
        (zN.m K (decide (VR ≥ (286 : Int))) (3 : Int)).bind fun _ =>
        zK (inb (qi (VR - (257 : Int))) 29) <|
        (yt.m K (qw.mk (qE.mk (qs.mk VT) VQ.Reader_.text_) VO VQ.limit_) (xc.mk ((rd tab_inflate_lengths (qi (VR - (257 : Int)))).from_) ((rd tab_inflate_lengths (qi (VR - (257 : Int)))).bits_))).bind fun (VZ, VW) =>
        (xJ.m K (qw.mk (qE.mk (qs.mk VW) VQ.Reader_.text_) VO VQ.limit_) VS).bind fun (VU, VX) =>
        (zN.m K (decide (VU ≥ (30 : Int))) (3 : Int)).bind fun _ =>
        zK (inb VU 30) <|
        (yt.m K (qw.mk (qE.mk (qs.mk VX) VQ.Reader_.text_) VO VQ.limit_) (xc.mk ((rd tab_inflate_distances VU).from_) ((rd tab_inflate_distances VU).bits_))).bind fun (V0, VY) =>
        (zN.m K (decide (V0 > (VO.length : Int))) (3 : Int)).bind fun _ =>
        (zN.m K (decide ((qi ((VO.length : Int) + VZ)) > VQ.limit_)) (11 : Int)).bind fun _ =>
        zj.l2 K (zj.l1 K VQ VP VS k) VZ V0 VY K VO (0 : Int)))
def zj.m (K : Nat) (VQ : qw) (VO : qF) (VP : qF) : q7 (Int × (List Int)) :=
  zj.l1 K VQ VO VP K VQ.Reader_.place_.at_ VQ.out_
def qZ.l3 (K : Nat) (g1 : Int → (List Int) → q7 ((List Int) × Int)) (VR : Int) (VO : Int) (VP : Int) : Nat → (List Int) → Int → q7 ((List Int) × Int)
  | 0, _, _ => .fail
  | k + 1, VQ, VS =>
    cond (decide (VS < VP))
      (
      zK (room (VQ.length + ([VO] : List Int).length) 8) <|
      lt (VQ ++ ([VO] : List Int)) fun (VT : (List Int)) =>
      qZ.l3 K g1 VR VO VP k VT (qi (VS + (1 : Int))))
      (
      g1 VR VQ)
def qZ.j2 (K : Nat) (g1 : Int → (List Int) → q7 ((List Int) × Int)) (VS : Int) (VQ : (List Int)) (VR : Int) (VP : Int) (VO : Int) : q7 ((List Int) × Int) :=
  (zN.m K (decide (VO > (qi (VS - (VQ.length : Int))))) (3 : Int)).bind fun _ =>
  qZ.l3 K (g1) VR VP VO K VQ (0 : Int)
def qZ.l1 (K : Nat) (VO : qw) (VQ : Int) (VS : qF) : Nat → Int → (List Int) → q7 ((List Int) × Int)
  | 0, _, _ => .fail
  | k + 1, VT, VP =>
    cond (decide ((VP.length : Int) < VQ))
      (
      (xJ.m K (qw.mk (qE.mk (qs.mk VT) VO.Reader_.text_) VO.out_ VO.limit_) VS).bind fun (VU, VR) =>
      lt ((decide (VU < (16 : Int)))) fun (V2 : Bool) =>
      cond V2
        (
        qZ.j2 K (qZ.l1 K VO VQ VS k) VQ VP VR VU (1 : Int))
        (
        lt ((VU == (16 : Int))) fun (V3 : Bool) =>
        cond V3
          (
          (zN.m K ((VP.length : Int) == (0 : Int)) (3 : Int)).bind fun _ =>
          zK (inb (qi ((VP.length : Int) - (1 : Int))) VP.length) <|
          (zB.m K (qw.mk (qE.mk (qs.mk VR) VO.Reader_.text_) VO.out_ VO.limit_) (2 : Int)).bind fun (V5, VZ) =>
          lt ((rd VP (qi ((VP.length : Int) - (1 : Int))))) fun (VY : Int) =>
          lt ((qi ((3 : Int) + V5))) fun (VV : Int) =>
          qZ.j2 K (qZ.l1 K VO VQ VS k) VQ VP VZ VY VV)
          (
          lt ((VU == (17 : Int))) fun (V4 : Bool) =>
          cond V4
            (
            (zB.m K (qw.mk (qE.mk (qs.mk VR) VO.Reader_.text_) VO.out_ VO.limit_) (3 : Int)).bind fun (V6, V0) =>
            lt ((qi ((3 : Int) + V6))) fun (VW : Int) =>
            qZ.j2 K (qZ.l1 K VO VQ VS k) VQ VP V0 (0 : Int) VW)
            (
            (zB.m K (qw.mk (qE.mk (qs.mk VR) VO.Reader_.text_) VO.out_ VO.limit_) (7 : Int)).bind fun (V7, V1) =>
            lt ((qi ((11 : Int) + V7))) fun (VX : Int) =>
            qZ.j2 K (qZ.l1 K VO VQ VS k) VQ VP V1 (0 : Int) VX))))
      (
      .ok (VP, VT))
def qZ.m (K : Nat) (VO : qw) (VP : Int) (VQ : qF) : q7 ((List Int) × Int) :=
  qZ.l1 K VO VP VQ K VO.Reader_.place_.at_ ([] : List Int)
def zr.j2 (K : Nat) (VR : qw) (VP : Int) (VW : Int) (VS : Int) (VQ : (List Int)) : q7 ((Option qF) × (Option qF) × Int) :=
  (zN.m K (VQ == ([0, 0, 0, 0, 0, 0, 0, 0, 0, 0, 0, 0, 0, 0, 0, 0, 0, 0, 0] : List Int)) (3 : Int)).bind fun _ =>
  (yd.m K VQ).bind fun VX =>
  Y5 VX fun VY =>
  (qZ.m K (qw.mk (qE.mk (qs.mk VS) VR.Reader_.text_) VR.out_ VR.limit_) (qi (VP + VW)) VY).bind fun (VO, VT) =>
  zK (inb (256 : Int) VO.length) <|
  (zN.m K ((rd VO (256 : Int)) == (0 : Int)) (3 : Int)).bind fun _ =>
  zK (subok (0 : Int) VP VO.length) <|
  lt (sub VO (0 : Int) VP) fun (VU : (List Int)) =>
  zK (subok VP (VO.length : Int) VO.length) <|
  lt (sub VO VP (VO.length : Int)) fun (VV : (List Int)) =>
  (yd.m K VU).bind fun VZ =>
  (yd.m K VV).bind fun V0 =>
  .ok (VZ, V0, VT)
def zr.l1 (K : Nat) (VP : qw) (VT : Int) (VU : Int) (VO : Int) : Nat → Int → (List Int) → Int → q7 ((Option qF) × (Option qF) × Int)
  | 0, _, _, _ => .fail
  | k + 1, VR, VS, VQ =>
    cond (decide (VQ < (19 : Int)))
      (
      zK (inb VQ 19) <|
      lt ((rd tab_inflate_order VQ)) fun (VW : Int) =>
      cond (decide (VQ < VO))
        (
        (zB.m K (qw.mk (qE.mk (qs.mk VR) VP.Reader_.text_) VP.out_ VP.limit_) (3 : Int)).bind fun (VY, VV) =>
        zK (inb VW 19) <|
        lt (VS.set (Int.toNat VW) VY) fun (VX : (List Int)) =>
        zr.l1 K VP VT VU VO k VV VX (qi (VQ + (1 : Int))))
        (
        zr.l1 K VP VT VU VO k VR VS (qi (VQ + (1 : Int)))))
      (
      zr.j2 K VP VT VU VR VS)
def zr.m (K : Nat) (VO : qw) : q7 ((Option qF) × (Option qF) × Int) :=
  (zB.m K VO (5 : Int)).bind fun (VV, VR) =>
  (zB.m K (qw.mk (qE.mk (qs.mk VR) VO.Reader_.text_) VO.out_ VO.limit_) (5 : Int)).bind fun (VW, VS) =>
  lt ((qi (VV + (257 : Int)))) fun (VQ : Int) =>
  lt ((qi (VW + (1 : Int)))) fun (VU : Int) =>
  (zB.m K (qw.mk (qE.mk (qs.mk VS) VO.Reader_.text_) VO.out_ VO.limit_) (4 : Int)).bind fun (VX, VT) =>
  lt ((qi (VX + (4 : Int)))) fun (VP : Int) =>
  (zN.m K ((decide (VQ > (286 : Int))) || (decide (VU > (30 : Int)))) (3 : Int)).bind fun _ =>
  zr.l1 K VO VQ VU VP K VT (List.replicate 19 (0 : Int)) (0 : Int)
def yK.m (K : Nat) (VO : qw) : q7 (Bool × Int × (List Int)) :=
  (zB.m K VO (1 : Int)).bind fun (V3, VS) =>
  lt ((V3 == (1 : Int))) fun (VP : Bool) =>
  (zB.m K (qw.mk (qE.mk (qs.mk VS) VO.Reader_.text_) VO.out_ VO.limit_) (2 : Int)).bind fun (VR, VQ) =>
  lt ((VR == (0 : Int))) fun (V0 : Bool) =>
  cond V0
    (
    (yB.m K (qw.mk (qE.mk (qs.mk VQ) VO.Reader_.text_) VO.out_ VO.limit_)).bind fun (VT, VX) =>
    .ok (VP, VT, VX))
    (
    lt ((VR == (1 : Int))) fun (V1 : Bool) =>
    cond V1
      (
      (zl.m K).bind fun (V4, V5) =>
      Y5 V4 fun V6 =>
      Y5 V5 fun V7 =>
      (zj.m K (qw.mk (qE.mk (qs.mk VQ) VO.Reader_.text_) VO.out_ VO.limit_) V6 V7).bind fun (VU, VY) =>
      .ok (VP, VU, VY))
      (
      lt ((VR == (2 : Int))) fun (V2 : Bool) =>
      cond V2
        (
        (zr.m K (qw.mk (qE.mk (qs.mk VQ) VO.Reader_.text_) VO.out_ VO.limit_)).bind fun (V8, V9, VV) =>
        Y5 V8 fun Ua =>
        Y5 V9 fun Ub =>
        (zj.m K (qw.mk (qE.mk (qs.mk VV) VO.Reader_.text_) VO.out_ VO.limit_) Ua Ub).bind fun (VW, VZ) =>
        .ok (VP, VW, VZ))
        (
        (zN.m K true (3 : Int)).bind fun _ =>
        .ok (VP, VQ, VO.out_))))
def jL.m (K : Nat) (VO : qE) : q7 Unit :=
  .ok ()
def zA.h1 (K : Nat)  (VP : Value) : q7 ((List UInt8) × Int × Int) :=
  Y5 (JS x8 .i64 VP) fun VO =>
  .ok (([] : List UInt8), (0 : Int), VO)
def zA.j4 (K : Nat) (VQ : List UInt8) (VO : Int) (VP : (List Int)) : q7 ((List UInt8) × Int × Int) :=
  (jL.m K (qE.mk (qs.mk VO) VQ)).bind fun _ =>
  .ok ((VP.map jo), (x5 .i64 (qi (VO + (7 : Int))) (8 : Int)), (0 : Int))
def zA.l3 (K : Nat) (VR : List UInt8) (VO : Int) : Nat → Int → (List Int) → q7 ((List UInt8) × Int × Int)
  | 0, _, _ => .fail
  | k + 1, VS, VT =>
    (yK.m K (qw.mk (qE.mk (qs.mk VS) VR) VT VO)).bind fun (VU, VP, VQ) =>
    cond (!VU)
      (
      zA.l3 K VR VO k VP VQ)
      (
      zA.j4 K VR VP VQ)
def zA.j2 (K : Nat) (VP : List UInt8) (VO : Int) : q7 ((List UInt8) × Int × Int) :=
  (Qx.m K VP).bind fun _ =>
  zA.l3 K VP VO K (0 : Int) ([] : List Int)
def zA.m (K : Nat) (VP : List UInt8) (VO : Int) : q7 ((List UInt8) × Int × Int) :=
  cond ((decide (VO < (0 : Int))) || (decide (VO > (1073741824 : Int))))
    (
    .ok (([] : List UInt8), (0 : Int), (1 : Int)))
    (
    (zA.j2 K VP VO).catch (zA.h1 K))
def ux.m (K : Nat) (VP : List UInt8) (VO : Int) : q7 ((List UInt8) × Int × Int) :=
  cond ((decide (VO < (0 : Int))) || (decide (VO > (1073741824 : Int))))
    (
    .ok (([] : List UInt8), (0 : Int), (1 : Int)))
    (
    (uv.m K VP).bind fun _ =>
    (zi.m K (ze.mk VP (0 : Int)) (0 : Int) (2 : Int)).bind fun (VR, VS) =>
    cond (VS != (0 : Int))
      (
      .ok (([] : List UInt8), (0 : Int), VS))
      (
      cond (((((xi .u64 (zX .u64 VR (8 : Int)) (15 : Int)) != (8 : Int)) || (decide ((zX .u64 VR (12 : Int)) > (7 : Int)))) || ((vd VR (31 : Int)) != (0 : Int))) || ((xi .u64 VR (32 : Int)) != (0 : Int)))
        (
        .ok (([] : List UInt8), (0 : Int), (3 : Int)))
        (
        zK (subok (2 : Int) (VP.length : Int) VP.length) <|
        (zA.m K (sub VP (2 : Int) (VP.length : Int)) VO).bind fun (VT, VZ, VU) =>
        cond (VU != (0 : Int))
          (
          .ok (([] : List UInt8), (0 : Int), VU))
          (
          lt ((qi (VZ + (2 : Int)))) fun (VQ : Int) =>
          (uv.m K VP).bind fun _ =>
          (zi.m K (ze.mk VP (0 : Int)) VQ (4 : Int)).bind fun (V0, VV) =>
          lt ((VV != (0 : Int))) fun (VW : Bool) =>
          cond VW
            (
            .ok (([] : List UInt8), (0 : Int), VV))
            (
            (vG.m K VT).bind fun V1 =>
            lt (((wr .u32 V0) != V1)) fun (VX : Bool) =>
            cond VX
              (
              .ok (([] : List UInt8), (0 : Int), (4 : Int)))
              (
              lt ((qi (VQ + (4 : Int)))) fun (VY : Int) =>
              .ok (VT, VY, (0 : Int))))))))
def yl.m (K : Nat) (VQ : List Int) (VP : Int) (VO : Int) : q7 Int :=
  cond (decide (VP < VO))
    (
    .ok (0 : Int))
    (
    zK (inb (qi (VP - VO)) VQ.length) <|
    lt ((wr .i64 (rd VQ (qi (VP - VO))))) fun (VR : Int) =>
    .ok VR)
def uM.m (K : Nat) (VO : Int) (VP : Int) : q7 Int :=
  lt ((if (qi (VP - VO)) > (qi (VO - VP)) then (qi (VP - VO)) else (qi (VO - VP)))) fun (VQ : Int) =>
  .ok VQ
def u6.m (K : Nat) (VO : Int) (VP : Int) (VQ : Int) : q7 Int :=
  lt ((qi ((qi (VO + VP)) - VQ))) fun (VR : Int) =>
  (uM.m K VR VO).bind fun VS =>
  (uM.m K VR VP).bind fun VT =>
  (uM.m K VR VQ).bind fun VU =>
  lt (((decide (VS ≤ VT)) && (decide (VS ≤ VU)))) fun (VV : Bool) =>
  cond VV
    (
    .ok VO)
    (
    lt ((decide (VT ≤ VU))) fun (VW : Bool) =>
    cond VW
      (
      .ok VP)
      (
      .ok VQ))
def zS.l1 (K : Nat) (VO : Int) (VT : List Int) (VR : List Int) (VS : Int) : Nat → (List Int) → Int → q7 (Bool × (List Int))
  | 0, _, _ => .fail
  | k + 1, VP, VQ =>
    cond (decide (VQ < (VT.length : Int)))
      (
      zK (inb VQ VR.length) <|
      (yl.m K VP VQ VS).bind fun VV =>
      (yl.m K VR VQ VS).bind fun V6 =>
      lt ((wr .i64 (rd VR VQ))) fun (VU : Int) =>
      lt ((VO == (0 : Int))) fun (V1 : Bool) =>
      cond V1
        (
        zS.l1 K VO VT VR VS k VP (qi (VQ + (1 : Int))))
        (
        lt ((VO == (1 : Int))) fun (V2 : Bool) =>
        cond V2
          (
          zK (inb VQ VP.length) <|
          lt (VP.set (Int.toNat VQ) (wr .u8 ((rd VP VQ) + (wr .u8 VV)))) fun (VW : (List Int)) =>
          zS.l1 K VO VT VR VS k VW (qi (VQ + (1 : Int))))
          (
          lt ((VO == (2 : Int))) fun (V3 : Bool) =>
          cond V3
            (
            zK (inb VQ VP.length) <|
            lt (VP.set (Int.toNat VQ) (wr .u8 ((rd VP VQ) + (wr .u8 VU)))) fun (VX : (List Int)) =>
            zS.l1 K VO VT VR VS k VX (qi (VQ + (1 : Int))))
            (
            lt ((VO == (3 : Int))) fun (V4 : Bool) =>
            cond V4
              (
              zK (inb VQ VP.length) <|
              lt (VP.set (Int.toNat VQ) (wr .u8 ((rd VP VQ) + (wr .u8 (x5 .i64 (qi (VV + VU)) (2 : Int)))))) fun (VY : (List Int)) =>
              zS.l1 K VO VT VR VS k VY (qi (VQ + (1 : Int))))
              (
              lt ((VO == (4 : Int))) fun (V5 : Bool) =>
              cond V5
                (
                zK (inb VQ VP.length) <|
                (u6.m K VV VU V6).bind fun V7 =>
                lt (VP.set (Int.toNat VQ) (wr .u8 ((rd VP VQ) + (wr .u8 V7)))) fun (VZ : (List Int)) =>
                zS.l1 K VO VT VR VS k VZ (qi (VQ + (1 : Int))))
                (
                .ok (false, VP)))))))
      (
      lt ((decide (VO ≤ (4 : Int)))) fun (V0 : Bool) =>
      .ok (V0, VP))
def zS.m (K : Nat) (VO : Int) (VP : List Int) (VQ : List Int) (VR : Int) : q7 (Bool × (List Int)) :=
  zS.l1 K VO VP VQ VR K VP (0 : Int)
def xT.j2 (K : Nat) (VQ : Int) (VR : Int) (VO : Int) (VP : (List Int)) : q7 (Int × Int × Int × (List UInt8) × Int) :=
  .ok (VQ, VR, VO, (VP.map jo), (0 : Int))
def xT.l1 (K : Nat) (VX : Int) (VV : Int) (VP : Int) (VQ : Int) (VS : List UInt8) : Nat → (List Int) → (List Int) → Int → q7 (Int × Int × Int × (List UInt8) × Int)
  | 0, _, _, _ => .fail
  | k + 1, VR, VU, VW =>
    cond (decide (VW < VV))
      (
      lt ((qi (VW * (qi (VQ + (1 : Int)))))) fun (VO : Int) =>
      zK (subok (qi (VO + (1 : Int))) (qi ((qi (VO + (1 : Int))) + VQ)) VS.length) <|
      zK (uV (sub VS (qi (VO + (1 : Int))) (qi ((qi (VO + (1 : Int))) + VQ))).length) <|
      lt ((sub VS (qi (VO + (1 : Int))) (qi ((qi (VO + (1 : Int))) + VQ))).map X1) fun (VY : (List Int)) =>
      zK (inb VO VS.length) <|
      (zS.m K ((rd VS VO).toNat : Int) VY VU VP).bind fun (V0, VT) =>
      cond (!V0)
        (
        .ok ((0 : Int), (0 : Int), (0 : Int), ([] : List UInt8), (3 : Int)))
        (
        zK (room (VR.length + VT.length) 1) <|
        lt (VR ++ VT) fun (VZ : (List Int)) =>
        xT.l1 K VX VV VP VQ VS k VZ VT (qi (VW + (1 : Int)))))
      (
      xT.j2 K VX VV VP VR)
def xT.m (K : Nat) (V0 : List UInt8) : q7 (Int × Int × Int × (List UInt8) × Int) :=
  (z5.m K V0).bind fun (VQ, VT) =>
  cond (VT != (0 : Int))
    (
    .ok ((0 : Int), (0 : Int), (0 : Int), ([] : List UInt8), VT))
    (
    zK (inb (0 : Int) VQ.length) <|
    (xX.m K (qd.mk ((rd VQ (0 : Int)).Type_) ((rd VQ (0 : Int)).Data_))).bind fun (VS, VR, VP, VU) =>
    cond (VU != (0 : Int))
      (
      .ok ((0 : Int), (0 : Int), (0 : Int), ([] : List UInt8), VU))
      (
      zK (subok (1 : Int) (VQ.length : Int) VQ.length) <|
      lt (sub VQ (1 : Int) (VQ.length : Int)) fun (VY : (List qd)) =>
      (zG.m K VY).bind fun (VV, V1) =>
      cond (!V1)
        (
        .ok ((0 : Int), (0 : Int), (0 : Int), ([] : List UInt8), (3 : Int)))
        (
        lt ((qi (VS * VP))) fun (VO : Int) =>
        (ux.m K VV (qi (VR * (qi (VO + (1 : Int)))))).bind fun (VW, V2, VX) =>
        cond (VX != (0 : Int))
          (
          .ok ((0 : Int), (0 : Int), (0 : Int), ([] : List UInt8), VX))
          (
          cond ((V2 != (VV.length : Int)) || ((VW.length : Int) != (qi (VR * (qi (VO + (1 : Int)))))))
            (
            .ok ((0 : Int), (0 : Int), (0 : Int), ([] : List UInt8), (3 : Int)))
            (
            zK (decide (0 ≤ VO) && room (Int.toNat VO) 1) <|
            lt (List.replicate (Int.toNat VO) (0 : Int)) fun (VZ : (List Int)) =>
            xT.l1 K VS VR VP VO VW K ([] : List Int) VZ (0 : Int))))))
def xC.m (K : Nat) : q7 Bool :=
  (zJ.m K (xk.mk (2 : Int) (1 : Int) (1 : Int) ([97, 98] : List UInt8))).bind fun (VT, VU) =>
  (xT.m K VT).bind fun (VR, VS, VO, VP, VV) =>
  (z5.m K VT).bind fun (VQ, VW) =>
  (yo.m K ([] : List qd)).bind fun (VZ, VY) =>
  zK (Jc true (((((VU == (0 : Int)) && (VV == (0 : Int))) && ((VR == (2 : Int)) && ((VS == (1 : Int)) && ((VO == (1 : Int)) && ((VP == ([97, 98] : List UInt8)) && true))))) && (VW == (0 : Int))) && ((VQ.length : Int) == (3 : Int))) (inb (2 : Int) VQ.length)) <|
  lt ((((((((VU == (0 : Int)) && (VV == (0 : Int))) && ((VR == (2 : Int)) && ((VS == (1 : Int)) && ((VO == (1 : Int)) && ((VP == ([97, 98] : List UInt8)) && true))))) && (VW == (0 : Int))) && ((VQ.length : Int) == (3 : Int))) && ((rd VQ (2 : Int)).Type_ == ([73, 69, 78, 68] : List UInt8))) && (VY == (1 : Int)))) fun (VX : Bool) =>
  .ok VX
def yu.m (K : Nat) (VO : Int) : q7 Bool :=
  lt (((((VO == (1 : Int)) || (VO == (2 : Int))) || (VO == (4 : Int))) || (VO == (8 : Int)))) fun (VP : Bool) =>
  .ok VP
def zm.j2 (K : Nat) (g1 : Int → Int → q7 (Int × Int)) (VP : Int) (VR : Int) (VO : Int) : q7 (Int × Int) :=
  lt ((wr .u64 ((wr .u64 (VP * (256 : Int))) + (wr .u64 VO)))) fun (VQ : Int) =>
  lt ((qi (VR + (1 : Int)))) fun (VS : Int) =>
  g1 VQ VS
def zm.l1 (K : Nat) (VR : List UInt8) (VP : Int) (VO : Int) (VS : Bool) : Nat → Int → Int → q7 (Int × Int)
  | 0, _, _ => .fail
  | k + 1, VT, VQ =>
    cond (decide (VQ < VO))
      (
      zK (inb (qi ((qi ((qi (VP + VO)) - (1 : Int))) - VQ)) VR.length) <|
      lt (((rd VR (qi ((qi ((qi (VP + VO)) - (1 : Int))) - VQ))).toNat : Int)) fun (VU : Int) =>
      cond VS
        (
        zK (inb (qi (VP + VQ)) VR.length) <|
        lt (((rd VR (qi (VP + VQ))).toNat : Int)) fun (VV : Int) =>
        zm.j2 K (zm.l1 K VR VP VO VS k) VT VQ VV)
        (
        zm.j2 K (zm.l1 K VR VP VO VS k) VT VQ VU))
      (
      .ok (VT, (0 : Int)))
def zm.m (K : Nat) (VQ : List UInt8) (VP : Int) (VO : Int) (VR : Bool) : q7 (Int × Int) :=
  (yu.m K VO).bind fun VS =>
  cond ((!VS) || (decide (VP < (0 : Int))))
    (
    .ok ((0 : Int), (1 : Int)))
    (
    cond ((decide (VP > (VQ.length : Int))) || (decide (VO > (qi ((VQ.length : Int) - VP)))))
      (
      .ok ((0 : Int), (2 : Int)))
      (
      zm.l1 K VQ VP VO VR K (0 : Int) (0 : Int)))
def xG.m (K : Nat) (VP : List UInt8) (VO : Int) : q7 Int :=
  (zm.m K VP VO (4 : Int) true).bind fun (VR, VS) =>
  lt ((wr .i64 VR)) fun (VQ : Int) =>
  .ok VQ
def qT.j3 (K : Nat) (g1 : Int → q7 Bool) (VO : Int) (VQ : Bool) : q7 Bool :=
  cond VQ
    (
    .ok false)
    (
    lt ((qi (VO + (1 : Int)))) fun (VP : Int) =>
    g1 VP)
def qT.j2 (K : Nat) (g1 : Int → q7 Bool) (VO : Int) (VQ : Bool) (VP : Bool) : q7 Bool :=
  qT.j3 K (g1) VO (!VP)
def qT.l1 (K : Nat) (VO : List UInt8) : Nat → Int → q7 Bool
  | 0, _ => .fail
  | k + 1, VP =>
    cond (decide (VP < (VO.length : Int)))
      (
      zK (inb VP VO.length) <|
      cond (!((decide (((rd VO VP).toNat : Int) ≥ (65 : Int))) && (decide (((rd VO VP).toNat : Int) ≤ (90 : Int)))))
        (
        cond (decide (((rd VO VP).toNat : Int) ≥ (97 : Int)))
          (
          qT.j2 K (qT.l1 K VO k) VP true (decide (((rd VO VP).toNat : Int) ≤ (122 : Int))))
          (
          qT.j2 K (qT.l1 K VO k) VP false false))
        (
        qT.j3 K (qT.l1 K VO k) VP false))
      (
      lt (((VO.length : Int) == (4 : Int))) fun (VQ : Bool) =>
      .ok VQ)
def qT.m (K : Nat) (VO : List UInt8) : q7 Bool :=
  qT.l1 K VO K (0 : Int)
def zh.l2 (K : Nat) (g1 : Int → Int → q7 Int) (VS : Int) : Nat → Int → Int → Int → q7 Int
  | 0, _, _, _ => .fail
  | k + 1, VT, VQ, VO =>
    cond (decide (VO < (8 : Int)))
      (
      lt (((vd VT (2 : Int)) != (vd VQ (2 : Int)))) fun (VP : Bool) =>
      lt ((x5 .u32 VT (2 : Int))) fun (VU : Int) =>
      lt ((x5 .u32 VQ (2 : Int))) fun (VR : Int) =>
      cond VP
        (
        lt ((jG .u32 VU (3988292384 : Int))) fun (VY : Int) =>
        lt ((qi (VO + (1 : Int)))) fun (VV : Int) =>
        zh.l2 K g1 VS k VY VR VV)
        (
        lt ((qi (VO + (1 : Int)))) fun (VW : Int) =>
        zh.l2 K g1 VS k VU VR VW))
      (
      lt ((qi (VS + (1 : Int)))) fun (VX : Int) =>
      g1 VT VX)
def zh.l1 (K : Nat) (VP : List UInt8) : Nat → Int → Int → q7 Int
  | 0, _, _ => .fail
  | k + 1, VQ, VO =>
    cond (decide (VO < (VP.length : Int)))
      (
      zK (inb VO VP.length) <|
      lt ((wr .u32 ((rd VP VO).toNat : Int))) fun (VR : Int) =>
      zh.l2 K (zh.l1 K VP k) VO K VQ VR (0 : Int))
      (
      lt ((jG .u32 VQ (4294967295 : Int))) fun (VS : Int) =>
      .ok VS)
def zh.m (K : Nat) (VO : Int) (VQ : List UInt8) : q7 Int :=
  lt ((jG .u32 VO (4294967295 : Int))) fun (VP : Int) =>
  zh.l1 K VQ K VP (0 : Int)
def yn.m (K : Nat) (VO : List UInt8) : q7 Int :=
  (zh.m K (0 : Int) VO).bind fun VP =>
  .ok VP
def qU.j3 (K : Nat) (VQ : List UInt8) (VP : (List qd)) (VO : Int) : q7 ((List qd) × Int) :=
  cond (decide (VO < (VQ.length : Int)))
    (
    .ok (([] : List qd), (3 : Int)))
    (
    .ok (VP, (0 : Int)))
def qU.j2 (K : Nat) (g1 : (List qd) → Int → q7 ((List qd) × Int)) (VQ : List UInt8) (VU : (List qd)) (VO : Int) (VR : Int) (VS : List UInt8) (VW : Bool) : q7 ((List qd) × Int) :=
  cond VW
    (
    .ok (([] : List qd), (3 : Int)))
    (
    cond ((decide ((qi ((qi ((VQ.length : Int) - VO)) - (8 : Int))) < VR)) || (decide ((qi ((qi ((qi ((VQ.length : Int) - VO)) - (8 : Int))) - VR)) < (4 : Int))))
      (
      .ok (([] : List qd), (2 : Int)))
      (
      zK (subok (qi (VO + (8 : Int))) (qi ((qi (VO + (8 : Int))) + VR)) VQ.length) <|
      lt ((sub VQ (qi (VO + (8 : Int))) (qi ((qi (VO + (8 : Int))) + VR)))) fun (VP : List UInt8) =>
      (xG.m K VQ (qi ((qi (VO + (8 : Int))) + VR))).bind fun VX =>
      zK (uV (VS.length + VP.length)) <|
      (yn.m K (VS ++ VP)).bind fun VY =>
      cond (VX != (wr .i64 VY))
        (
        .ok (([] : List qd), (4 : Int)))
        (
        zK (room (VU.length + ([(qd.mk VS VP)] : List qd).length) 32) <|
        lt (VU ++ ([(qd.mk VS VP)] : List qd)) fun (VV : (List qd)) =>
        lt ((qi ((qi (VO + (12 : Int))) + VR))) fun (VT : Int) =>
        cond (VS == ([73, 69, 78, 68] : List UInt8))
          (
          qU.j3 K VQ VV VT)
          (
          g1 VV VT))))
def qU.l1 (K : Nat) (VP : List UInt8) : Nat → (List qd) → Int → q7 ((List qd) × Int)
  | 0, _, _ => .fail
  | k + 1, VQ, VO =>
    cond (decide ((qi ((VP.length : Int) - VO)) < (8 : Int)))
      (
      .ok (([] : List qd), (2 : Int)))
      (
      (xG.m K VP VO).bind fun VS =>
      zK (subok (qi (VO + (4 : Int))) (qi (VO + (8 : Int))) VP.length) <|
      lt ((sub VP (qi (VO + (4 : Int))) (qi (VO + (8 : Int))))) fun (VR : List UInt8) =>
      cond (decide (VS > (2147483647 : Int)))
        (
        qU.j2 K (qU.l1 K VP k) VP VQ VO VS VR true)
        (
        (qT.m K VR).bind fun VT =>
        qU.j2 K (qU.l1 K VP k) VP VQ VO VS VR (!VT)))
def qU.m (K : Nat) (VO : List UInt8) : q7 ((List qd) × Int) :=
  cond (decide ((VO.length : Int) < (8 : Int)))
    (
    .ok (([] : List qd), (2 : Int)))
    (
    zK (subok (0 : Int) (8 : Int) VO.length) <|
    cond (!((sub VO (0 : Int) (8 : Int)) == ([137, 80, 78, 71, 13, 10, 26, 10] : List UInt8)))
      (
      .ok (([] : List qd), (3 : Int)))
      (
      qU.l1 K VO K ([] : List qd) (8 : Int)))
def zo.l1 (K : Nat) (VP : List qd) (VQ : List qd) : Nat → Int → q7 Bool
  | 0, _ => .fail
  | k + 1, VO =>
    cond (decide (VO < (VP.length : Int)))
      (
      zK (inb VO VP.length) <|
      zK (inb VO VQ.length) <|
      cond (!(((rd VP VO).Type_ == (rd VQ VO).Type_) && (((rd VP VO).Data_ == (rd VQ VO).Data_) && true)))
        (
        .ok false)
        (
        lt ((qi (VO + (1 : Int)))) fun (VR : Int) =>
        zo.l1 K VP VQ k VR))
      (
      .ok true)
def zo.m (K : Nat) (VO : List qd) (VP : List qd) : q7 Bool :=
  cond ((VO.length : Int) != (VP.length : Int))
    (
    .ok false)
    (
    zo.l1 K VO VP K (0 : Int))
def zd.j2 (K : Nat)  (VO : Bool) : q7 Bool :=
  .ok VO
def zd.j1 (K : Nat)  (VO : Bool) : q7 Bool :=
  cond VO
    (
    (xC.m K).bind fun VP =>
    zd.j2 K VP)
    (
    zd.j2 K false)
def zd.m (K : Nat) (s1 : List UInt8) : q7 Bool :=
  cond (decide ((s1.length : Int) > (20000 : Int)))
    (
    (xC.m K).bind fun VO =>
    .ok VO)
    (
    (z5.m K s1).bind fun (VP, VQ) =>
    (qU.m K s1).bind fun (VR, VS) =>
    cond (VQ == VS)
      (
      (zo.m K VP VR).bind fun VT =>
      zd.j1 K VT)
      (
      zd.j1 K false))
end Go.Mo
