/- Models of the Go functions that this statement reaches, printed by a program of mine: nothing is proved but lengths of tables. -/
import Derived.Test.YthoecbfhfglmpaaDoorOwnebefe
set_option linter.unusedVariables false
set_option linter.unusedSimpArgs false
namespace Go.Mo
open Go Go.Sl
structure qa where
  Name_ : List UInt8
  Type_ : Int
  Flags_ : Int
  Addr_ : Int
  Data_ : List UInt8
  Size_ : Int
  Link_ : Int
  Info_ : Int
  Align_ : Int
  Each_ : Int
  deriving Inhabited
structure qb where
  Type_ : Int
  Flags_ : Int
  Offset_ : Int
  Vaddr_ : Int
  Paddr_ : Int
  Filesz_ : Int
  Memsz_ : Int
  Align_ : Int
  deriving Inhabited
structure qJ where
  Type_ : Int
  Machine_ : Int
  Entry_ : Int
  Flags_ : Int
  Segments_ : (List qb)
  Sections_ : (List qa)
  deriving Inhabited
structure qc where
  Builder_ : (List Int)
  deriving Inhabited
structure qg where
  bytes_ : qc
  headers_ : qc
  names_ : (List Int)
  deriving Inhabited
structure qq where
  text_ : List UInt8
  base_ : Int
  deriving Inhabited
structure zh where
  whole_ : qq
  deriving Inhabited
structure qh where
  Window_ : qq
  next_ : Int
  deriving Inhabited
abbrev yD : TypeId := 45
def zS.m (K : Nat) (JO : Int) (JN : Int) : qA Bool :=
  lt (((decide (JO ≥ (0 : Int))) && (decide (JO ≤ JN)))) fun (JP : Bool) =>
  .ok JP
def qS.j3 (K : Nat)  (JN : Bool) : qA Bool :=
  .ok JN
def qS.j2 (K : Nat) (JO : qb) (JN : Bool) : qA Bool :=
  cond JN
    (
    (zS.m K JO.Filesz_ (1099511627776 : Int)).bind fun JP =>
    qS.j3 K JP)
    (
    qS.j3 K false)
def qS.j1 (K : Nat) (JN : qb) (JO : Bool) : qA Bool :=
  cond JO
    (
    (zS.m K JN.Offset_ (1099511627776 : Int)).bind fun JP =>
    qS.j2 K JN JP)
    (
    qS.j2 K JN false)
def qS.m (K : Nat) (JN : qb) : qA Bool :=
  (zS.m K JN.Type_ (4294967295 : Int)).bind fun JO =>
  cond JO
    (
    (zS.m K JN.Flags_ (4294967295 : Int)).bind fun JP =>
    qS.j1 K JN JP)
    (
    qS.j1 K JN false)
def zT.m (K : Nat) (JO : List UInt8) (JN : Int) : qA Int :=
  lt ((Lib.indexByte JO (yt JN))) fun (JP : Int) =>
  .ok JP
def q7.m (K : Nat) (JN : List UInt8) : qA Int :=
  lt ((([0] : List UInt8) == JN)) fun (JO : Bool) =>
  cond JO
    (
    .ok (0 : Int))
    (
    xC (inb (0 : Int) ([0] : List UInt8).length) <|
    (zT.m K JN (0 : Int)).bind fun JP =>
    .ok JP)
def x9.m (K : Nat) (JN : List UInt8) : qA Int :=
  (q7.m K JN).bind fun JO =>
  .ok JO
def xH.m (K : Nat) (JN : List UInt8) : qA Bool :=
  (x9.m K JN).bind fun JP =>
  lt ((decide (JP ≥ (0 : Int)))) fun (JO : Bool) =>
  .ok JO
def qG.j4 (K : Nat) (JR : qa) (JN : Bool) (JO : Bool) : qA Bool :=
  cond (JR.Type_ == (8 : Int))
    (
    lt (((JN && JO) && (JR.Data_ == ([] : List UInt8)))) fun (JP : Bool) =>
    .ok JP)
    (
    lt (((JN && JO) && (JR.Size_ == (0 : Int)))) fun (JQ : Bool) =>
    .ok JQ)
def qG.j3 (K : Nat) (JO : qa) (JN : Bool) : qA Bool :=
  cond (decide ((JO.Name_.length : Int) ≤ (200 : Int)))
    (
    (xH.m K JO.Name_).bind fun JP =>
    qG.j4 K JO JN (!JP))
    (
    qG.j4 K JO JN false)
def qG.j2 (K : Nat) (JP : qa) (JN : Bool) : qA Bool :=
  cond JN
    (
    (zS.m K JP.Size_ (1099511627776 : Int)).bind fun JO =>
    qG.j3 K JP JO)
    (
    qG.j3 K JP false)
def qG.j1 (K : Nat) (JP : qa) (JN : Bool) : qA Bool :=
  cond JN
    (
    (zS.m K JP.Info_ (4294967295 : Int)).bind fun JO =>
    qG.j2 K JP JO)
    (
    qG.j2 K JP false)
def qG.m (K : Nat) (JN : qa) : qA Bool :=
  (zS.m K JN.Type_ (4294967295 : Int)).bind fun JO =>
  cond JO
    (
    (zS.m K JN.Link_ (4294967295 : Int)).bind fun JP =>
    qG.j1 K JN JP)
    (
    qG.j1 K JN false)
def zm.l5 (K : Nat) (JN : qJ) : Nat → Int → qA Bool
  | 0, _ => .fail
  | k + 1, JO =>
    cond (decide (JO < (JN.Sections_.length : Int)))
      (
      xC (inb JO JN.Sections_.length) <|
      (qG.m K (qa.mk ((rd JN.Sections_ JO).Name_) ((rd JN.Sections_ JO).Type_) ((rd JN.Sections_ JO).Flags_) ((rd JN.Sections_ JO).Addr_) ((rd JN.Sections_ JO).Data_) ((rd JN.Sections_ JO).Size_) ((rd JN.Sections_ JO).Link_) ((rd JN.Sections_ JO).Info_) ((rd JN.Sections_ JO).Align_) ((rd JN.Sections_ JO).Each_))).bind fun JP =>
      cond (!JP)
        (
        .ok false)
        (
        zm.l5 K JN k (qM (JO + (1 : Int)))))
      (
      .ok true)
def zm.j4 (K : Nat) (JN : qJ) : qA Bool :=
  zm.l5 K JN K (0 : Int)
def zm.l3 (K : Nat) (JN : qJ) : Nat → Int → qA Bool
  | 0, _ => .fail
  | k + 1, JO =>
    cond (decide (JO < (JN.Segments_.length : Int)))
      (
      xC (inb JO JN.Segments_.length) <|
      (qS.m K (qb.mk ((rd JN.Segments_ JO).Type_) ((rd JN.Segments_ JO).Flags_) ((rd JN.Segments_ JO).Offset_) ((rd JN.Segments_ JO).Vaddr_) ((rd JN.Segments_ JO).Paddr_) ((rd JN.Segments_ JO).Filesz_) ((rd JN.Segments_ JO).Memsz_) ((rd JN.Segments_ JO).Align_))).bind fun JP =>
      cond (!JP)
        (
        .ok false)
        (
        zm.l3 K JN k (qM (JO + (1 : Int)))))
      (
      zm.j4 K JN)
def zm.j2 (K : Nat) (JN : qJ) (JO : Bool) : qA Bool :=
  cond ((JO || (decide ((JN.Segments_.length : Int) > (1000 : Int)))) || (decide ((JN.Sections_.length : Int) > (1000 : Int))))
    (
    .ok false)
    (
    zm.l3 K JN K (0 : Int))
def zm.j1 (K : Nat) (JN : qJ) (JO : Bool) : qA Bool :=
  cond JO
    (
    zm.j2 K JN true)
    (
    (zS.m K JN.Flags_ (4294967295 : Int)).bind fun JP =>
    zm.j2 K JN (!JP))
def zm.m (K : Nat) (JN : qJ) : qA Bool :=
  (zS.m K JN.Type_ (65535 : Int)).bind fun JO =>
  cond (!JO)
    (
    zm.j1 K JN true)
    (
    (zS.m K JN.Machine_ (65535 : Int)).bind fun JP =>
    zm.j1 K JN (!JP))
def yK.m (K : Nat) (JN : Int) : qA Bool :=
  lt ((((decide (JN > (0 : Int))) && (decide (JN ≤ (8 : Int)))) && ((Zx .i64 JN (qM (JN - (1 : Int)))) == (0 : Int)))) fun (JO : Bool) =>
  .ok JO
def qz.j3 (K : Nat)  (JP : Int) (JN : Int) : qA Int :=
  xC (inb (wr .u8 JP) ([0, 1, 2, 2, 3, 3, 3, 3, 4, 4, 4, 4, 4, 4, 4, 4, 5, 5, 5, 5, 5, 5, 5, 5, 5, 5, 5, 5, 5, 5, 5, 5, 6, 6, 6, 6, 6, 6, 6, 6, 6, 6, 6, 6, 6, 6, 6, 6, 6, 6, 6, 6, 6, 6, 6, 6, 6, 6, 6, 6, 6, 6, 6, 6, 7, 7, 7, 7, 7, 7, 7, 7, 7, 7, 7, 7, 7, 7, 7, 7, 7, 7, 7, 7, 7, 7, 7, 7, 7, 7, 7, 7, 7, 7, 7, 7, 7, 7, 7, 7, 7, 7, 7, 7, 7, 7, 7, 7, 7, 7, 7, 7, 7, 7, 7, 7, 7, 7, 7, 7, 7, 7, 7, 7, 7, 7, 7, 7, 8, 8, 8, 8, 8, 8, 8, 8, 8, 8, 8, 8, 8, 8, 8, 8, 8, 8, 8, 8, 8, 8, 8, 8, 8, 8, 8, 8, 8, 8, 8, 8, 8, 8, 8, 8, 8, 8, 8, 8, 8, 8, 8, 8, 8, 8, 8, 8, 8, 8, 8, 8, 8, 8, 8, 8, 8, 8, 8, 8, 8, 8, 8, 8, 8, 8, 8, 8, 8, 8, 8, 8, 8, 8, 8, 8, 8, 8, 8, 8, 8, 8, 8, 8, 8, 8, 8, 8, 8, 8, 8, 8, 8, 8, 8, 8, 8, 8, 8, 8, 8, 8, 8, 8, 8, 8, 8, 8, 8, 8, 8, 8, 8, 8, 8, 8, 8, 8, 8, 8, 8, 8, 8, 8, 8, 8, 8, 8] : List UInt8).length) <|
  lt ((qM (JN + (wr .i64 ((rd ([0, 1, 2, 2, 3, 3, 3, 3, 4, 4, 4, 4, 4, 4, 4, 4, 5, 5, 5, 5, 5, 5, 5, 5, 5, 5, 5, 5, 5, 5, 5, 5, 6, 6, 6, 6, 6, 6, 6, 6, 6, 6, 6, 6, 6, 6, 6, 6, 6, 6, 6, 6, 6, 6, 6, 6, 6, 6, 6, 6, 6, 6, 6, 6, 7, 7, 7, 7, 7, 7, 7, 7, 7, 7, 7, 7, 7, 7, 7, 7, 7, 7, 7, 7, 7, 7, 7, 7, 7, 7, 7, 7, 7, 7, 7, 7, 7, 7, 7, 7, 7, 7, 7, 7, 7, 7, 7, 7, 7, 7, 7, 7, 7, 7, 7, 7, 7, 7, 7, 7, 7, 7, 7, 7, 7, 7, 7, 7, 8, 8, 8, 8, 8, 8, 8, 8, 8, 8, 8, 8, 8, 8, 8, 8, 8, 8, 8, 8, 8, 8, 8, 8, 8, 8, 8, 8, 8, 8, 8, 8, 8, 8, 8, 8, 8, 8, 8, 8, 8, 8, 8, 8, 8, 8, 8, 8, 8, 8, 8, 8, 8, 8, 8, 8, 8, 8, 8, 8, 8, 8, 8, 8, 8, 8, 8, 8, 8, 8, 8, 8, 8, 8, 8, 8, 8, 8, 8, 8, 8, 8, 8, 8, 8, 8, 8, 8, 8, 8, 8, 8, 8, 8, 8, 8, 8, 8, 8, 8, 8, 8, 8, 8, 8, 8, 8, 8, 8, 8, 8, 8, 8, 8, 8, 8, 8, 8, 8, 8, 8, 8, 8, 8, 8, 8, 8, 8] : List UInt8) (wr .u8 JP)).toNat : Int))))) fun (JO : Int) =>
  .ok JO
def qz.j2 (K : Nat)  (JO : Int) (JN : Int) : qA Int :=
  cond (decide (JO ≥ (256 : Int)))
    (
    lt ((yU .u64 JO (8 : Int))) fun (JQ : Int) =>
    lt ((qM (JN + (8 : Int)))) fun (JP : Int) =>
    qz.j3 K JQ JP)
    (
    qz.j3 K JO JN)
def qz.j1 (K : Nat)  (JO : Int) (JN : Int) : qA Int :=
  cond (decide (JO ≥ (65536 : Int)))
    (
    lt ((yU .u64 JO (16 : Int))) fun (JQ : Int) =>
    lt ((qM (JN + (16 : Int)))) fun (JP : Int) =>
    qz.j2 K JQ JP)
    (
    qz.j2 K JO JN)
def qz.m (K : Nat) (JN : Int) : qA Int :=
  cond (decide (JN ≥ (4294967296 : Int)))
    (
    lt ((yU .u64 JN (32 : Int))) fun (JO : Int) =>
    qz.j1 K JO (32 : Int))
    (
    qz.j1 K JN (0 : Int))
def xp.m (K : Nat) (JN : Int) : qA Unit :=
  .ok ()
def yc.m (K : Nat) (JN : Int) : qA Unit :=
  .ok ()
def qV.l1 (K : Nat) (JP : Int) (JQ : (List Int)) : Nat → (List Int) → Int → qA ((List UInt8) × Int)
  | 0, _, _ => .fail
  | k + 1, JO, JN =>
    cond (decide (JN < (JQ.length : Int)))
      (
      xC (decide (0 ≤ (qM ((8 : Int) * JN)))) <|
      (yc.m K JN).bind fun _ =>
      xC (inb JN JO.length) <|
      lt (JO.set (Int.toNat JN) (wr .u8 (yU .u64 JP (qM ((8 : Int) * JN))))) fun (JR : (List Int)) =>
      qV.l1 K JP JQ k JR (qM (JN + (1 : Int))))
      (
      lt ((JO.map yt)) fun (JS : List UInt8) =>
      .ok (JS, (0 : Int)))
def qV.m (K : Nat) (JO : Int) (JN : Int) : qA ((List UInt8) × Int) :=
  (yK.m K JN).bind fun JQ =>
  cond (!JQ)
    (
    .ok (([] : List UInt8), (1 : Int)))
    (
    (qz.m K JO).bind fun JR =>
    cond (decide (JR > (qM ((8 : Int) * JN))))
      (
      .ok (([] : List UInt8), (10 : Int)))
      (
      (xp.m K JN).bind fun _ =>
      xC (decide (0 ≤ JN) && room (Int.toNat JN) 1) <|
      lt (List.replicate (Int.toNat JN) (0 : Int)) fun (JP : (List Int)) =>
      qV.l1 K JO JP K JP (0 : Int)))
def zv.m (K : Nat) (JN : qg) (JO : List UInt8) : qA (Int × (List Int)) :=
  xC (room (JN.bytes_.Builder_.length + JO.length) 1) <|
  lt (JN.bytes_.Builder_ ++ JO.map vm) fun (JP : (List Int)) =>
  lt ((JO.length : Int)) fun (JQ : Int) =>
  .ok (JQ, JP)
def q5.l1 (K : Nat) (JQ : qg) (JN : Int) (JO : List Int) : Nat → (List Int) → Int → qA (List Int)
  | 0, _, _ => .fail
  | k + 1, JP, JR =>
    cond (decide (JR < (JO.length : Int)))
      (
      xC (inb JR JO.length) <|
      lt ((rd JO JR)) fun (JT : Int) =>
      (qV.m K JT JN).bind fun (JU, JV) =>
      (zv.m K (qg.mk (qc.mk JP) JQ.headers_ JQ.names_) JU).bind fun (JW, JS) =>
      q5.l1 K JQ JN JO k JS (qM (JR + (1 : Int))))
      (
      .ok JP)
def q5.m (K : Nat) (JO : qg) (JN : Int) (JP : List Int) : qA (List Int) :=
  q5.l1 K JO JN JP K JO.bytes_.Builder_ (0 : Int)
def zj.l1 (K : Nat) (JP : qg) (JN : List Int) : Nat → (List Int) → Int → qA (List Int)
  | 0, _, _ => .fail
  | k + 1, JO, JQ =>
    cond (decide (JQ < (JN.length : Int)))
      (
      xC (inb JQ JN.length) <|
      lt ((rd JN JQ)) fun (JS : Int) =>
      (q5.m K (qg.mk (qc.mk JO) JP.headers_ JP.names_) (4 : Int) ([(wr .u64 JS)] : List Int)).bind fun JR =>
      zj.l1 K JP JN k JR (qM (JQ + (1 : Int))))
      (
      .ok JO)
def zj.m (K : Nat) (JN : qg) (JO : List Int) : qA (List Int) :=
  zj.l1 K JN JO K JN.bytes_.Builder_ (0 : Int)
def xF.m (K : Nat) (JP : qg) (JO : List Int) : qA (List Int) :=
  (q5.m K JP (8 : Int) JO).bind fun JN =>
  .ok JN
def z1.m (K : Nat) (JN : qg) : qA Int :=
  lt ((JN.names_.length : Int)) fun (JO : Int) =>
  .ok JO
def zQ.m (K : Nat) (JN : qg) (JO : List UInt8) : qA (Int × (List Int)) :=
  xC (room (JN.names_.length + JO.length) 1) <|
  lt (JN.names_ ++ JO.map vm) fun (JP : (List Int)) =>
  lt ((JO.length : Int)) fun (JQ : Int) =>
  .ok (JQ, JP)
def xZ.m (K : Nat) (JN : qg) (JP : List UInt8) : qA (Int × (List Int)) :=
  (z1.m K JN).bind fun JQ =>
  xC (Qy (JP.length + ([0] : List UInt8).length)) <|
  (zQ.m K JN (JP ++ ([0] : List UInt8))).bind fun (JR, JO) =>
  .ok (JQ, JO)
def strings_Repeat.m (K : Nat) (JO : List UInt8) (JN : Int) : qA (List UInt8) :=
  (X0 JO JN).bind fun JP =>
  .ok JP
def zx.m (K : Nat) (JN : qg) (JO : List UInt8) : qA (Int × (List Int)) :=
  xC (room (JN.headers_.Builder_.length + JO.length) 1) <|
  lt (JN.headers_.Builder_ ++ JO.map vm) fun (JP : (List Int)) =>
  lt ((JO.length : Int)) fun (JQ : Int) =>
  .ok (JQ, JP)
def zZ.m (K : Nat) (JN : qg) : qA Int :=
  lt ((JN.bytes_.Builder_.length : Int)) fun (JO : Int) =>
  .ok JO
def zW.m (K : Nat) (JN : qg) (JO : Int) : qA (List Int) :=
  xC (room (JN.bytes_.Builder_.length + ([JO] : List Int).length) 1) <|
  lt (JN.bytes_.Builder_ ++ ([JO] : List Int)) fun (JP : (List Int)) =>
  .ok JP
def zJ.j2 (K : Nat) (JO : qg) (JN : (List Int)) : qA (Int × (List Int)) :=
  (zZ.m K (qg.mk (qc.mk JN) JO.headers_ JO.names_)).bind fun JQ =>
  lt ((qM ((64 : Int) + JQ))) fun (JP : Int) =>
  .ok (JP, JN)
def zJ.l1 (K : Nat) (JN : qg) : Nat → (List Int) → qA (Int × (List Int))
  | 0, _ => .fail
  | k + 1, JO =>
    (zZ.m K (qg.mk (qc.mk JO) JN.headers_ JN.names_)).bind fun JQ =>
    cond ((Z4 JQ (8 : Int)) != (0 : Int))
      (
      (zW.m K (qg.mk (qc.mk JO) JN.headers_ JN.names_) (0 : Int)).bind fun JP =>
      zJ.l1 K JN k JP)
      (
      zJ.j2 K JN JO)
def zJ.m (K : Nat) (JN : qg) : qA (Int × (List Int)) :=
  zJ.l1 K JN K JN.bytes_.Builder_
def zk.l1 (K : Nat) (JP : qg) (JN : Int) (JO : List Int) : Nat → (List Int) → Int → qA (List Int)
  | 0, _, _ => .fail
  | k + 1, JQ, JR =>
    cond (decide (JR < (JO.length : Int)))
      (
      xC (inb JR JO.length) <|
      lt ((rd JO JR)) fun (JT : Int) =>
      (qV.m K JT JN).bind fun (JU, JV) =>
      (zx.m K (qg.mk JP.bytes_ (qc.mk JQ) JP.names_) JU).bind fun (JW, JS) =>
      zk.l1 K JP JN JO k JS (qM (JR + (1 : Int))))
      (
      .ok JQ)
def zk.m (K : Nat) (JO : qg) (JN : Int) (JP : List Int) : qA (List Int) :=
  zk.l1 K JO JN JP K JO.headers_.Builder_ (0 : Int)
def zu.l1 (K : Nat) (JO : qg) (JN : List Int) : Nat → (List Int) → Int → qA (List Int)
  | 0, _, _ => .fail
  | k + 1, JP, JQ =>
    cond (decide (JQ < (JN.length : Int)))
      (
      xC (inb JQ JN.length) <|
      lt ((rd JN JQ)) fun (JS : Int) =>
      (zk.m K (qg.mk JO.bytes_ (qc.mk JP) JO.names_) (4 : Int) ([(wr .u64 JS)] : List Int)).bind fun JR =>
      zu.l1 K JO JN k JR (qM (JQ + (1 : Int))))
      (
      .ok JP)
def zu.m (K : Nat) (JN : qg) (JO : List Int) : qA (List Int) :=
  zu.l1 K JN JO K JN.headers_.Builder_ (0 : Int)
def xJ.m (K : Nat) (JP : qg) (JO : List Int) : qA (List Int) :=
  (zk.m K JP (8 : Int) JO).bind fun JN =>
  .ok JN
def x4.m (K : Nat) (JN : qg) (JP : Int) (JO : qa) (JR : Int) (JQ : Int) : qA (List Int) :=
  (zu.m K JN ([JP, JO.Type_] : List Int)).bind fun JS =>
  (xJ.m K (qg.mk JN.bytes_ (qc.mk JS) JN.names_) ([JO.Flags_, JO.Addr_, (wr .u64 JR), (wr .u64 JQ)] : List Int)).bind fun JT =>
  (zu.m K (qg.mk JN.bytes_ (qc.mk JT) JN.names_) ([JO.Link_, JO.Info_] : List Int)).bind fun JU =>
  (xJ.m K (qg.mk JN.bytes_ (qc.mk JU) JN.names_) ([JO.Align_, JO.Each_] : List Int)).bind fun JV =>
  .ok JV
def xc.m (K : Nat) (JN : qg) : qA (List UInt8) :=
  lt ((JN.names_.map yt)) fun (JO : List UInt8) =>
  .ok JO
def zP.m (K : Nat) (JN : qg) (JO : List UInt8) : qA (Int × (List Int)) :=
  xC (room (JN.bytes_.Builder_.length + JO.length) 1) <|
  lt (JN.bytes_.Builder_ ++ JO.map vm) fun (JP : (List Int)) =>
  lt ((JO.length : Int)) fun (JQ : Int) =>
  .ok (JQ, JP)
def zY.m (K : Nat) (JN : qg) : qA Int :=
  lt ((JN.bytes_.Builder_.length : Int)) fun (JO : Int) =>
  .ok JO
def zV.m (K : Nat) (JN : qg) (JO : Int) : qA (List Int) :=
  xC (room (JN.bytes_.Builder_.length + ([JO] : List Int).length) 1) <|
  lt (JN.bytes_.Builder_ ++ ([JO] : List Int)) fun (JP : (List Int)) =>
  .ok JP
def zd.j2 (K : Nat) (JO : qg) (JN : (List Int)) : qA (Int × (List Int)) :=
  (zY.m K (qg.mk (qc.mk JN) JO.headers_ JO.names_)).bind fun JQ =>
  lt ((qM ((64 : Int) + JQ))) fun (JP : Int) =>
  .ok (JP, JN)
def zd.l1 (K : Nat) (JN : qg) : Nat → (List Int) → qA (Int × (List Int))
  | 0, _ => .fail
  | k + 1, JO =>
    (zY.m K (qg.mk (qc.mk JO) JN.headers_ JN.names_)).bind fun JQ =>
    cond ((Z4 JQ (8 : Int)) != (0 : Int))
      (
      (zV.m K (qg.mk (qc.mk JO) JN.headers_ JN.names_) (0 : Int)).bind fun JP =>
      zd.l1 K JN k JP)
      (
      zd.j2 K JN JO)
def zd.m (K : Nat) (JN : qg) : qA (Int × (List Int)) :=
  zd.l1 K JN K JN.bytes_.Builder_
def zw.m (K : Nat) (JN : qc) (JO : List UInt8) : qA (Int × (List Int)) :=
  xC (room (JN.Builder_.length + JO.length) 1) <|
  lt (JN.Builder_ ++ JO.map vm) fun (JP : (List Int)) =>
  lt ((JO.length : Int)) fun (JQ : Int) =>
  .ok (JQ, JP)
def zn.l1 (K : Nat) (JN : Int) (JO : List Int) : Nat → (List Int) → Int → qA (List Int)
  | 0, _, _ => .fail
  | k + 1, JP, JQ =>
    cond (decide (JQ < (JO.length : Int)))
      (
      xC (inb JQ JO.length) <|
      lt ((rd JO JQ)) fun (JS : Int) =>
      (qV.m K JS JN).bind fun (JT, JU) =>
      (zw.m K (qc.mk JP) JT).bind fun (JV, JR) =>
      zn.l1 K JN JO k JR (qM (JQ + (1 : Int))))
      (
      .ok JP)
def zn.m (K : Nat) (JP : qc) (JN : Int) (JO : List Int) : qA (List Int) :=
  zn.l1 K JN JO K JP.Builder_ (0 : Int)
def zN.l1 (K : Nat) (JN : List Int) : Nat → (List Int) → Int → qA (List Int)
  | 0, _, _ => .fail
  | k + 1, JO, JP =>
    cond (decide (JP < (JN.length : Int)))
      (
      xC (inb JP JN.length) <|
      lt ((rd JN JP)) fun (JR : Int) =>
      (zn.m K (qc.mk JO) (2 : Int) ([(wr .u64 JR)] : List Int)).bind fun JQ =>
      zN.l1 K JN k JQ (qM (JP + (1 : Int))))
      (
      .ok JO)
def zN.m (K : Nat) (JO : qc) (JN : List Int) : qA (List Int) :=
  zN.l1 K JN K JO.Builder_ (0 : Int)
def z8.l1 (K : Nat) (JN : List Int) : Nat → (List Int) → Int → qA (List Int)
  | 0, _, _ => .fail
  | k + 1, JO, JP =>
    cond (decide (JP < (JN.length : Int)))
      (
      xC (inb JP JN.length) <|
      lt ((rd JN JP)) fun (JR : Int) =>
      (zn.m K (qc.mk JO) (4 : Int) ([(wr .u64 JR)] : List Int)).bind fun JQ =>
      z8.l1 K JN k JQ (qM (JP + (1 : Int))))
      (
      .ok JO)
def z8.m (K : Nat) (JO : qc) (JN : List Int) : qA (List Int) :=
  z8.l1 K JN K JO.Builder_ (0 : Int)
def ji.m (K : Nat) (JP : qc) (JO : List Int) : qA (List Int) :=
  (zn.m K JP (8 : Int) JO).bind fun JN =>
  .ok JN
def xb.m (K : Nat) (JN : qc) : qA (List UInt8) :=
  lt ((JN.Builder_.map yt)) fun (JO : List UInt8) =>
  .ok JO
def xa.m (K : Nat) (JN : qg) : qA (List UInt8) :=
  lt ((JN.bytes_.Builder_.map yt)) fun (JO : List UInt8) =>
  .ok JO
def xd.m (K : Nat) (JN : qg) : qA (List UInt8) :=
  lt ((JN.headers_.Builder_.map yt)) fun (JO : List UInt8) =>
  .ok JO
def qY.j4 (K : Nat) (g3 : (List Int) → (List Int) → (List Int) → Int → qA ((List UInt8) × Int)) (JR : qJ) (JP : (List Int)) (JU : (List Int)) (JN : Int) (JO : (List Int)) (JT : Int) (JS : Int) : qA ((List UInt8) × Int) :=
  (xZ.m K (qg.mk (qc.mk JO) (qc.mk JP) JU) ((rd JR.Sections_ JN).Name_)).bind fun (JW, JQ) =>
  (x4.m K (qg.mk (qc.mk JO) (qc.mk JP) JQ) JW (qa.mk ((rd JR.Sections_ JN).Name_) ((rd JR.Sections_ JN).Type_) ((rd JR.Sections_ JN).Flags_) ((rd JR.Sections_ JN).Addr_) ((rd JR.Sections_ JN).Data_) ((rd JR.Sections_ JN).Size_) ((rd JR.Sections_ JN).Link_) ((rd JR.Sections_ JN).Info_) ((rd JR.Sections_ JN).Align_) ((rd JR.Sections_ JN).Each_)) JT JS).bind fun JV =>
  g3 JO JV JQ (qM (JN + (1 : Int)))
def qY.j5 (K : Nat) (J5 : qJ) (JT : Int) (JR : (List Int)) (JP : (List Int)) (JW : (List Int)) : qA ((List UInt8) × Int) :=
  (xZ.m K (qg.mk (qc.mk JR) (qc.mk JP) JW) ([46, 115, 104, 115, 116, 114, 116, 97, 98] : List UInt8)).bind fun (J7, JN) =>
  (zJ.m K (qg.mk (qc.mk JR) (qc.mk JP) JN)).bind fun (J8, JQ) =>
  (z1.m K (qg.mk (qc.mk JQ) (qc.mk JP) JN)).bind fun J9 =>
  (x4.m K (qg.mk (qc.mk JQ) (qc.mk JP) JN) J7 (qa.mk ([] : List UInt8) (3 : Int) (0 : Int) (0 : Int) ([] : List UInt8) (0 : Int) (0 : Int) (0 : Int) (1 : Int) (0 : Int)) J8 J9).bind fun JO =>
  (xc.m K (qg.mk (qc.mk JQ) (qc.mk JO) JN)).bind fun Va =>
  (zP.m K (qg.mk (qc.mk JQ) (qc.mk JO) JN) Va).bind fun (Vc, JX) =>
  (zd.m K (qg.mk (qc.mk JX) (qc.mk JO) JN)).bind fun (Vb, JS) =>
  (zw.m K (qc.mk ([] : List Int)) ([127, 69, 76, 70, 2, 1, 1, 0, 0, 0, 0, 0, 0, 0, 0, 0] : List UInt8)).bind fun (Vd, JY) =>
  (zN.m K (qc.mk JY) ([J5.Type_, J5.Machine_] : List Int)).bind fun JZ =>
  (z8.m K (qc.mk JZ) ([(1 : Int)] : List Int)).bind fun J0 =>
  (ji.m K (qc.mk J0) ([J5.Entry_, (wr .u64 JT), (wr .u64 Vb)] : List Int)).bind fun J1 =>
  (z8.m K (qc.mk J1) ([J5.Flags_] : List Int)).bind fun J2 =>
  (zN.m K (qc.mk J2) ([(64 : Int), (56 : Int), (J5.Segments_.length : Int), (64 : Int), (qM ((J5.Sections_.length : Int) + (2 : Int))), (qM ((J5.Sections_.length : Int) + (1 : Int)))] : List Int)).bind fun J3 =>
  (xb.m K (qc.mk J3)).bind fun JU =>
  (xa.m K (qg.mk (qc.mk JS) (qc.mk JO) JN)).bind fun JV =>
  xC (Qy (JU.length + JV.length)) <|
  (xd.m K (qg.mk (qc.mk JS) (qc.mk JO) JN)).bind fun J4 =>
  xC (Qy ((JU ++ JV).length + J4.length)) <|
  lt (((JU ++ JV) ++ J4)) fun (J6 : List UInt8) =>
  .ok (J6, (0 : Int))
def qY.l3 (K : Nat) (JS : qJ) (JQ : Int) : Nat → (List Int) → (List Int) → (List Int) → Int → qA ((List UInt8) × Int)
  | 0, _, _, _, _ => .fail
  | k + 1, JR, JN, JO, JP =>
    cond (decide (JP < (JS.Sections_.length : Int)))
      (
      xC (inb JP JS.Sections_.length) <|
      lt ((rd JS.Sections_ JP).Size_) fun (JT : Int) =>
      cond (!((rd JS.Sections_ JP).Data_ == ([] : List UInt8)))
        (
        (zJ.m K (qg.mk (qc.mk JR) (qc.mk JN) JO)).bind fun (JX, JV) =>
        lt ((((rd JS.Sections_ JP).Data_).length : Int)) fun (JU : Int) =>
        (zv.m K (qg.mk (qc.mk JV) (qc.mk JN) JO) ((rd JS.Sections_ JP).Data_)).bind fun (JY, JW) =>
        qY.j4 K (qY.l3 K JS JQ k) JS JN JO JP JW JX JU)
        (
        qY.j4 K (qY.l3 K JS JQ k) JS JN JO JP JR (0 : Int) JT))
      (
      qY.j5 K JS JQ JR JN JO)
def qY.j2 (K : Nat) (JS : qJ) (JN : (List Int)) (JP : Int) : qA ((List UInt8) × Int) :=
  (xZ.m K (qg.mk (qc.mk JN) (qc.mk ([] : List Int)) ([] : List Int)) ([] : List UInt8)).bind fun (JT, JO) =>
  (strings_Repeat.m K ([0] : List UInt8) (64 : Int)).bind fun JR =>
  (zx.m K (qg.mk (qc.mk JN) (qc.mk ([] : List Int)) JO) JR).bind fun (JU, JQ) =>
  qY.l3 K JS JP K JN JQ JO (0 : Int)
def qY.l1 (K : Nat) (JO : qJ) : Nat → (List Int) → Int → Int → qA ((List UInt8) × Int)
  | 0, _, _, _ => .fail
  | k + 1, JP, JQ, JN =>
    cond (decide (JN < (JO.Segments_.length : Int)))
      (
      xC (inb JN JO.Segments_.length) <|
      (zj.m K (qg.mk (qc.mk JP) (qc.mk ([] : List Int)) ([] : List Int)) ([(rd JO.Segments_ JN).Type_, (rd JO.Segments_ JN).Flags_] : List Int)).bind fun JR =>
      (xF.m K (qg.mk (qc.mk JR) (qc.mk ([] : List Int)) ([] : List Int)) ([(wr .u64 (rd JO.Segments_ JN).Offset_), (rd JO.Segments_ JN).Vaddr_, (rd JO.Segments_ JN).Paddr_, (wr .u64 (rd JO.Segments_ JN).Filesz_), (rd JO.Segments_ JN).Memsz_, (rd JO.Segments_ JN).Align_] : List Int)).bind fun JS =>
      qY.l1 K JO k JS (64 : Int) (qM (JN + (1 : Int))))
      (
      qY.j2 K JO JP JQ)
def qY.m (K : Nat) (JO : qJ) : qA ((List UInt8) × Int) :=
  (zm.m K JO).bind fun JN =>
  cond (!JN)
    (
    .ok (([] : List UInt8), (1 : Int)))
    (
    qY.l1 K JO K ([] : List Int) (0 : Int) (0 : Int))
def uX.m (K : Nat) (JN : List UInt8) : qA Unit :=
  .ok ()
def xQ.m (K : Nat) (JN : qq) : qA Int :=
  lt ((JN.text_.length : Int)) fun (JO : Int) =>
  .ok JO
def zr.m (K : Nat) (JN : Bool) (JO : Int) : qA Unit :=
  cond JN
    (
    .pan (.iface yD (.agg ⟨[.int .i64 JO]⟩)))
    (
    .ok ())
def xx.m (K : Nat) (JO : qq) (JN : Int) (JP : Int) : qA ((List UInt8) × Int × Int) :=
  cond ((decide (JN < (0 : Int))) || (decide (JP < (0 : Int))))
    (
    .ok (([] : List UInt8), (0 : Int), (1 : Int)))
    (
    cond ((decide (JN > (JO.text_.length : Int))) || (decide (JP > (qM ((JO.text_.length : Int) - JN)))))
      (
      .ok (([] : List UInt8), (0 : Int), (2 : Int)))
      (
      xC (subok JN (qM (JN + JP)) JO.text_.length) <|
      .ok ((sub JO.text_ JN (qM (JN + JP))), (qM (JO.base_ + JN)), (0 : Int))))
def ve.m (K : Nat) (JN : Int) : qA Unit :=
  cond (JN != (0 : Int))
    (
    .pan (.iface yD (.agg ⟨[.int .i64 JN]⟩)))
    (
    .ok ())
def q6.j1 (K : Nat) (JQ : zh) (JP : Int) (JR : Int) (JS : Bool) : qA ((List UInt8) × Int) :=
  (zr.m K JS (2 : Int)).bind fun _ =>
  (xx.m K JQ.whole_ (wr .i64 JP) (wr .i64 JR)).bind fun (JO, JN, JT) =>
  (ve.m K JT).bind fun _ =>
  .ok (JO, JN)
def q6.m (K : Nat) (JO : zh) (JN : Int) (JP : Int) : qA ((List UInt8) × Int) :=
  (xQ.m K JO.whole_).bind fun JQ =>
  cond (decide (JN > (wr .u64 JQ)))
    (
    q6.j1 K JO JN JP true)
    (
    (xQ.m K JO.whole_).bind fun JR =>
    q6.j1 K JO JN JP (decide (JP > (wr .u64 JR))))
def z6.m (K : Nat) (JN : qq) : qA Unit :=
  .ok ()
def qQ.l1 (K : Nat) (JP : Int) (JN : List UInt8) : Nat → Int → Int → qA (Int × Int)
  | 0, _, _ => .fail
  | k + 1, JQ, JO =>
    cond (decide (JO < JP))
      (
      (yc.m K JO).bind fun _ =>
      xC (inb JO JN.length) <|
      xC (decide (0 ≤ (qM ((8 : Int) * JO)))) <|
      lt ((Yc .u64 JQ (Qc .u64 (wr .u64 ((rd JN JO).toNat : Int)) (qM ((8 : Int) * JO))))) fun (JR : Int) =>
      qQ.l1 K JP JN k JR (qM (JO + (1 : Int))))
      (
      .ok (JQ, (0 : Int)))
def qQ.m (K : Nat) (JR : qq) (JP : Int) (JN : Int) : qA (Int × Int) :=
  (yK.m K JN).bind fun JT =>
  cond (!JT)
    (
    .ok ((0 : Int), (1 : Int)))
    (
    (xx.m K JR JP JN).bind fun (JO, JS, JQ) =>
    cond (JQ != (0 : Int))
      (
      .ok ((0 : Int), JQ))
      (
      (xp.m K JN).bind fun _ =>
      qQ.l1 K JN JO K (0 : Int) (0 : Int)))
def zL.m (K : Nat) (JO : qh) (JN : Int) : qA (Int × Int) :=
  (qQ.m K JO.Window_ JO.next_ JN).bind fun (JP, JQ) =>
  (ve.m K JQ).bind fun _ =>
  .ok (JP, (qM (JO.next_ + JN)))
def zt.m (K : Nat) (JO : qh) : qA (Int × Int) :=
  (zL.m K JO (2 : Int)).bind fun (JQ, JN) =>
  lt ((wr .i64 JQ)) fun (JP : Int) =>
  .ok (JP, JN)
def zC.m (K : Nat) (JO : qh) : qA (Int × Int) :=
  (zL.m K JO (4 : Int)).bind fun (JQ, JN) =>
  lt ((wr .i64 JQ)) fun (JP : Int) =>
  .ok (JP, JN)
def qZ.m (K : Nat) (JO : qh) : qA (Int × Int) :=
  (zL.m K JO (8 : Int)).bind fun (JP, JN) =>
  .ok (JP, JN)
def xE.m (K : Nat) (J3 : zh) (Vg : qJ) : qA (Int × Int × Int × Int × Int × Int × Int × Int) :=
  (q6.m K J3 (0 : Int) (64 : Int)).bind fun (JN, JO) =>
  (z6.m K (qq.mk JN JO)).bind fun _ =>
  xC (subok (0 : Int) (16 : Int) JN.length) <|
  (zr.m K (!((sub JN (0 : Int) (16 : Int)) == ([127, 69, 76, 70, 2, 1, 1, 0, 0, 0, 0, 0, 0, 0, 0, 0] : List UInt8))) (3 : Int)).bind fun _ =>
  (zt.m K (qh.mk (qq.mk JN JO) (16 : Int))).bind fun (J5, JQ) =>
  (zt.m K (qh.mk (qq.mk JN JO) JQ)).bind fun (J6, JR) =>
  (zC.m K (qh.mk (qq.mk JN JO) JR)).bind fun (J7, JS) =>
  (qZ.m K (qh.mk (qq.mk JN JO) JS)).bind fun (J8, JT) =>
  (qZ.m K (qh.mk (qq.mk JN JO) JT)).bind fun (J9, JU) =>
  (qZ.m K (qh.mk (qq.mk JN JO) JU)).bind fun (Va, JV) =>
  (zC.m K (qh.mk (qq.mk JN JO) JV)).bind fun (Vb, JW) =>
  (zt.m K (qh.mk (qq.mk JN JO) JW)).bind fun (Vc, JX) =>
  (zt.m K (qh.mk (qq.mk JN JO) JX)).bind fun (Vd, JY) =>
  (zt.m K (qh.mk (qq.mk JN JO) JY)).bind fun (J2, JZ) =>
  (zt.m K (qh.mk (qq.mk JN JO) JZ)).bind fun (Ve, J0) =>
  (zt.m K (qh.mk (qq.mk JN JO) J0)).bind fun (JP, J1) =>
  (zt.m K (qh.mk (qq.mk JN JO) J1)).bind fun (Vf, J4) =>
  (zr.m K ((((J7 != (1 : Int)) || (Vc != (64 : Int))) || (Vd != (56 : Int))) || (Ve != (64 : Int))) (3 : Int)).bind fun _ =>
  (zr.m K ((((decide (JP < (2 : Int))) || (Vf != (qM (JP - (1 : Int))))) || (decide (J2 > (1000 : Int)))) || (decide (JP > (1002 : Int)))) (3 : Int)).bind fun _ =>
  .ok (J9, Va, J2, JP, J5, J6, J8, Vb)
def yY.m (K : Nat) (JN : Int) : qA Unit :=
  (zr.m K (decide (JN > (1099511627776 : Int))) (3 : Int)).bind fun _ =>
  .ok ()
def xv.m (K : Nat) (JY : zh) (JN : qh) : qA (Int × Int × Int × Int × Int × Int × Int × Int × Int) :=
  (zC.m K JN).bind fun (J1, JO) =>
  (zC.m K (qh.mk JN.Window_ JO)).bind fun (J2, JP) =>
  (qZ.m K (qh.mk JN.Window_ JP)).bind fun (JW, JQ) =>
  (qZ.m K (qh.mk JN.Window_ JQ)).bind fun (J3, JR) =>
  (qZ.m K (qh.mk JN.Window_ JR)).bind fun (J4, JS) =>
  (qZ.m K (qh.mk JN.Window_ JS)).bind fun (JX, JT) =>
  (qZ.m K (qh.mk JN.Window_ JT)).bind fun (J5, JU) =>
  (qZ.m K (qh.mk JN.Window_ JU)).bind fun (J6, JV) =>
  (yY.m K JW).bind fun _ =>
  (yY.m K JX).bind fun _ =>
  (q6.m K JY JW JX).bind fun (J0, JZ) =>
  .ok (J1, J2, (wr .i64 JW), J3, J4, (wr .i64 JX), J5, J6, JV)
def qW.l1 (K : Nat) (JO : Int) : Nat → (List UInt8) → qA (List UInt8)
  | 0, _ => .fail
  | k + 1, JN =>
    xC (imp true (decide ((JN.length : Int) > (0 : Int))) (inb (qM ((JN.length : Int) - (1 : Int))) JN.length)) <|
    cond ((decide ((JN.length : Int) > (0 : Int))) && (((rd JN (qM ((JN.length : Int) - (1 : Int)))).toNat : Int) == JO))
      (
      xC (subok (0 : Int) (qM ((JN.length : Int) - (1 : Int))) JN.length) <|
      lt ((sub JN (0 : Int) (qM ((JN.length : Int) - (1 : Int))))) fun (JP : List UInt8) =>
      qW.l1 K JO k JP)
      (
      .ok JN)
def qW.m (K : Nat) (JO : List UInt8) (JN : Int) : qA (List UInt8) :=
  qW.l1 K JN K JO
def qX.l1 (K : Nat) (JO : Int) : Nat → (List UInt8) → qA (List UInt8)
  | 0, _ => .fail
  | k + 1, JN =>
    xC (imp true (decide ((JN.length : Int) > (0 : Int))) (inb (0 : Int) JN.length)) <|
    cond ((decide ((JN.length : Int) > (0 : Int))) && (((rd JN (0 : Int)).toNat : Int) == JO))
      (
      xC (subok (1 : Int) (JN.length : Int) JN.length) <|
      lt ((sub JN (1 : Int) (JN.length : Int))) fun (JP : List UInt8) =>
      qX.l1 K JO k JP)
      (
      .ok JN)
def qX.m (K : Nat) (JO : List UInt8) (JN : Int) : qA (List UInt8) :=
  qX.l1 K JN K JO
def xq.m (K : Nat) (JN : List UInt8) : qA (List UInt8) :=
  cond ((JN == ([] : List UInt8)) || false)
    (
    .ok JN)
    (
    xC (inb (0 : Int) ([0] : List UInt8).length) <|
    (qW.m K JN (0 : Int)).bind fun JO =>
    (qX.m K JO (0 : Int)).bind fun JP =>
    .ok JP)
def zl.j1 (K : Nat) (JQ : Int) (JR : Int) (JS : Int) (JT : Int) (JU : Int) (JV : Int) (JW : Int) (JX : Int) (JO : Int) (JN : List UInt8) (JP : Int) : qA (Int × Int × Int × (List UInt8) × Int × Int × Int × Int × Int × Int × Int) :=
  .ok (JR, JS, JT, JN, JP, JU, JV, JW, JX, JQ, JO)
def zl.m (K : Nat) (Va : zh) (JN : qh) : qA (Int × Int × Int × (List UInt8) × Int × Int × Int × Int × Int × Int × Int) :=
  (zC.m K JN).bind fun (J2, JR) =>
  (zC.m K (qh.mk JN.Window_ JR)).bind fun (J0, JS) =>
  (qZ.m K (qh.mk JN.Window_ JS)).bind fun (J3, JT) =>
  (qZ.m K (qh.mk JN.Window_ JT)).bind fun (J4, JU) =>
  (qZ.m K (qh.mk JN.Window_ JU)).bind fun (J5, JV) =>
  (qZ.m K (qh.mk JN.Window_ JV)).bind fun (J1, JW) =>
  (zC.m K (qh.mk JN.Window_ JW)).bind fun (J6, JX) =>
  (zC.m K (qh.mk JN.Window_ JX)).bind fun (J7, JY) =>
  (qZ.m K (qh.mk JN.Window_ JY)).bind fun (J8, JZ) =>
  (qZ.m K (qh.mk JN.Window_ JZ)).bind fun (J9, JO) =>
  (yY.m K J5).bind fun _ =>
  (yY.m K J1).bind fun _ =>
  cond (J0 == (8 : Int))
    (
    zl.j1 K J2 J0 J3 J4 J6 J7 J8 J9 JO ([] : List UInt8) (wr .i64 J1))
    (
    (q6.m K Va J5 J1).bind fun (JP, JQ) =>
    (z6.m K (qq.mk JP JQ)).bind fun _ =>
    zl.j1 K J2 J0 J3 J4 J6 J7 J8 J9 JO JP (0 : Int))
def zG.m (K : Nat) (JN : List UInt8) : qA ((List UInt8) × (List UInt8) × Bool) :=
  (q7.m K JN).bind fun JO =>
  cond (decide (JO ≥ (0 : Int)))
    (
    xC (subok (0 : Int) JO JN.length) <|
    xC (subok (qM (JO + (1 : Int))) (JN.length : Int) JN.length) <|
    lt ((sub JN (0 : Int) JO)) fun (JP : List UInt8) =>
    lt ((sub JN (qM (JO + (1 : Int))) (JN.length : Int))) fun (JQ : List UInt8) =>
    .ok (JP, JQ, true))
    (
    .ok (JN, ([] : List UInt8), false))
def xS.m (K : Nat) (JN : List UInt8) : qA ((List UInt8) × (List UInt8) × Bool) :=
  (zG.m K JN).bind fun (JO, JP, JQ) =>
  .ok (JO, JP, JQ)
def y4.m (K : Nat) (JN : List UInt8) (JO : Int) : qA (List UInt8) :=
  (zr.m K (decide (JO > (JN.length : Int))) (3 : Int)).bind fun _ =>
  xC (subok JO (JN.length : Int) JN.length) <|
  (xS.m K (sub JN JO (JN.length : Int))).bind fun (JP, JR, JQ) =>
  (zr.m K ((!JQ) || (decide ((JP.length : Int) > (200 : Int)))) (3 : Int)).bind fun _ =>
  .ok JP
def qu.h1 (K : Nat)  (JO : Value) : qA (Int × Int × Int × Int × (List qb) × (List qa) × Int) :=
  YN (Yf yD .i64 JO) fun JN =>
  .ok ((0 : Int), (0 : Int), (0 : Int), (0 : Int), ([] : List qb), ([] : List qa), JN)
def qu.j9 (K : Nat) (JT : Int) (JQ : Int) (JR : Int) (JS : Int) (JP : (List qb)) (JO : Int) (JN : (List qa)) : qA (Int × Int × Int × Int × (List qb) × (List qa) × Int) :=
  xC (inb JO JN.length) <|
  (zr.m K (!((rd JN JO).Name_ == ([46, 115, 104, 115, 116, 114, 116, 97, 98] : List UInt8))) (3 : Int)).bind fun _ =>
  xC (subok (0 : Int) JO JN.length) <|
  lt (sub JN 0 JO) fun (JU : (List qa)) =>
  .ok (JT, JQ, JR, JS, JP, JU, (0 : Int))
def qu.l8 (K : Nat) (JV : Int) (JS : Int) (JT : Int) (JU : Int) (JR : (List qb)) (JP : (List Int)) (JQ : Int) : Nat → (List qa) → Int → qA (Int × Int × Int × Int × (List qb) × (List qa) × Int)
  | 0, _, _ => .fail
  | k + 1, JN, JO =>
    cond (decide (JO < (JP.length : Int)))
      (
      xC (inb JO JP.length) <|
      lt ((rd JP JO)) fun (JW : Int) =>
      xC (inb JQ JN.length) <|
      (y4.m K ((rd JN JQ).Data_) JW).bind fun JY =>
      xC (inb JO JN.length) <|
      lt (JN.set (Int.toNat JO) (qa.mk JY ((rd JN JO).Type_) ((rd JN JO).Flags_) ((rd JN JO).Addr_) ((rd JN JO).Data_) ((rd JN JO).Size_) ((rd JN JO).Link_) ((rd JN JO).Info_) ((rd JN JO).Align_) ((rd JN JO).Each_))) fun (JX : (List qa)) =>
      qu.l8 K JV JS JT JU JR JP JQ k JX (qM (JO + (1 : Int))))
      (
      qu.j9 K JV JS JT JU JR JQ JN)
def qu.j7 (K : Nat) (JU : Int) (JQ : Int) (JR : Int) (JS : Int) (JP : (List qb)) (JN : (List qa)) (JT : (List Int)) : qA (Int × Int × Int × Int × (List qb) × (List qa) × Int) :=
  lt ((qM ((JN.length : Int) - (1 : Int)))) fun (JO : Int) =>
  xC (inb JO JN.length) <|
  (zr.m K ((rd JN JO).Type_ != (3 : Int)) (3 : Int)).bind fun _ =>
  qu.l8 K JU JQ JR JS JP JT JO K JN (0 : Int)
def qu.l6 (K : Nat) (J8 : List UInt8) (JO : Int) (JW : Int) (JR : Int) (JT : Int) (JU : Int) (J5 : List UInt8) (JZ : Int) (JP : (List qb)) : Nat → (List qa) → Int → (List Int) → Int → qA (Int × Int × Int × Int × (List qb) × (List qa) × Int)
  | 0, _, _, _, _ => .fail
  | k + 1, JN, J6, JQ, J9 =>
    cond (decide (J9 < (qM (JO - (1 : Int)))))
      (
      (zl.m K (zh.mk (qq.mk J8 (0 : Int))) (qh.mk (qq.mk J5 JZ) J6)).bind fun (JX, JV, JY, J0, J4, J3, J2, JS, J1, Va, J7) =>
      xC (room (JN.length + ([(qa.mk ([] : List UInt8) JX JV JY J0 J4 J3 J2 JS J1)] : List qa).length) 96) <|
      lt (JN ++ ([(qa.mk ([] : List UInt8) JX JV JY J0 J4 J3 J2 JS J1)] : List qa)) fun (Vb : (List qa)) =>
      xC (room (JQ.length + ([Va] : List Int).length) 8) <|
      lt (JQ ++ ([Va] : List Int)) fun (Vc : (List Int)) =>
      qu.l6 K J8 JO JW JR JT JU J5 JZ JP k Vb J7 Vc (qM (J9 + (1 : Int))))
      (
      qu.j7 K JW JR JT JU JP JN JQ)
def qu.j5 (K : Nat) (JV : List UInt8) (JO : Int) (JU : Int) (JR : Int) (JS : Int) (JT : Int) (JN : List UInt8) (JQ : Int) (JP : (List qb)) : qA (Int × Int × Int × Int × (List qb) × (List qa) × Int) :=
  (z6.m K (qq.mk JN JQ)).bind fun _ =>
  xC (subok (0 : Int) (64 : Int) JN.length) <|
  (xq.m K (sub JN (0 : Int) (64 : Int))).bind fun JW =>
  (zr.m K (!(JW == ([] : List UInt8))) (3 : Int)).bind fun _ =>
  qu.l6 K JV JO JU JR JS JT JN JQ JP K ([] : List qa) (64 : Int) ([] : List Int) (0 : Int)
def qu.l4 (K : Nat) (J6 : List UInt8) (JP : Int) (JO : Int) (JZ : Int) (JQ : Int) (JU : Int) (JV : Int) (J4 : List UInt8) (J3 : Int) : Nat → (List qb) → (Option qh) → Int → qA (Int × Int × Int × Int × (List qb) × (List qa) × Int)
  | 0, _, _, _ => .fail
  | k + 1, JN, J2, J7 =>
    cond (decide (J7 < JP))
      (
      YN J2 fun J8 =>
      (xv.m K (zh.mk (qq.mk J6 (0 : Int))) J8).bind fun (J0, JW, JS, J1, JY, JR, JX, JT, J5) =>
      xC (room (JN.length + ([(qb.mk J0 JW JS J1 JY JR JX JT)] : List qb).length) 64) <|
      lt (JN ++ ([(qb.mk J0 JW JS J1 JY JR JX JT)] : List qb)) fun (J9 : (List qb)) =>
      qu.l4 K J6 JP JO JZ JQ JU JV J4 J3 k J9 (some (qh.mk J8.Window_ J5)) (qM (J7 + (1 : Int))))
      (
      qu.j5 K J6 JO JZ JQ JU JV J4 J3 JN)
def qu.j3 (K : Nat) (JX : List UInt8) (JP : Int) (JO : Int) (JN : Int) (JU : Int) (JR : Int) (JS : Int) (JT : Int) (JQ : Option qh) : qA (Int × Int × Int × Int × (List qb) × (List qa) × Int) :=
  (q6.m K (zh.mk (qq.mk JX (0 : Int))) JP (wr .u64 (qM ((64 : Int) * JN)))).bind fun (JW, JV) =>
  qu.l4 K JX JO JN JU JR JS JT JW JV K ([] : List qb) JQ (0 : Int)
def qu.j2 (K : Nat) (JV : List UInt8) : qA (Int × Int × Int × Int × (List qb) × (List qa) × Int) :=
  (uX.m K JV).bind fun _ =>
  (xE.m K (zh.mk (qq.mk JV (0 : Int))) (qJ.mk (0 : Int) (0 : Int) (0 : Int) (0 : Int) ([] : List qb) ([] : List qa))).bind fun (JU, JP, JN, JO, JT, JQ, JR, JS) =>
  cond (decide (JN > (0 : Int)))
    (
    (q6.m K (zh.mk (qq.mk JV (0 : Int))) JU (wr .u64 (qM ((56 : Int) * JN)))).bind fun (JX, JW) =>
    qu.j3 K JV JP JN JO JT JQ JR JS (some (qh.mk (qq.mk JX JW) (0 : Int))))
    (
    qu.j3 K JV JP JN JO JT JQ JR JS none)
def qu.m (K : Nat) (JN : List UInt8) : qA (Int × Int × Int × Int × (List qb) × (List qa) × Int) :=
  (qu.j2 K JN).catch (qu.h1 K)
def qt.l3 (K : Nat) (JO : qJ) (JP : qJ) : Nat → Int → qA Bool
  | 0, _ => .fail
  | k + 1, JN =>
    cond (decide (JN < (JO.Sections_.length : Int)))
      (
      xC (inb JN JO.Sections_.length) <|
      xC (inb JN JP.Sections_.length) <|
      cond (!(((rd JO.Sections_ JN).Name_ == (rd JP.Sections_ JN).Name_) && (((rd JO.Sections_ JN).Type_ == (rd JP.Sections_ JN).Type_) && (((rd JO.Sections_ JN).Flags_ == (rd JP.Sections_ JN).Flags_) && (((rd JO.Sections_ JN).Addr_ == (rd JP.Sections_ JN).Addr_) && (((rd JO.Sections_ JN).Data_ == (rd JP.Sections_ JN).Data_) && (((rd JO.Sections_ JN).Size_ == (rd JP.Sections_ JN).Size_) && (((rd JO.Sections_ JN).Link_ == (rd JP.Sections_ JN).Link_) && (((rd JO.Sections_ JN).Info_ == (rd JP.Sections_ JN).Info_) && (((rd JO.Sections_ JN).Align_ == (rd JP.Sections_ JN).Align_) && (((rd JO.Sections_ JN).Each_ == (rd JP.Sections_ JN).Each_) && true)))))))))))
        (
        .ok false)
        (
        lt ((qM (JN + (1 : Int)))) fun (JQ : Int) =>
        qt.l3 K JO JP k JQ))
      (
      .ok true)
def qt.j2 (K : Nat) (JN : qJ) (JO : qJ) : qA Bool :=
  qt.l3 K JN JO K (0 : Int)
def qt.l1 (K : Nat) (JO : qJ) (JP : qJ) : Nat → Int → qA Bool
  | 0, _ => .fail
  | k + 1, JN =>
    cond (decide (JN < (JO.Segments_.length : Int)))
      (
      xC (inb JN JO.Segments_.length) <|
      xC (inb JN JP.Segments_.length) <|
      cond (!(((rd JO.Segments_ JN).Type_ == (rd JP.Segments_ JN).Type_) && (((rd JO.Segments_ JN).Flags_ == (rd JP.Segments_ JN).Flags_) && (((rd JO.Segments_ JN).Offset_ == (rd JP.Segments_ JN).Offset_) && (((rd JO.Segments_ JN).Vaddr_ == (rd JP.Segments_ JN).Vaddr_) && (((rd JO.Segments_ JN).Paddr_ == (rd JP.Segments_ JN).Paddr_) && (((rd JO.Segments_ JN).Filesz_ == (rd JP.Segments_ JN).Filesz_) && (((rd JO.Segments_ JN).Memsz_ == (rd JP.Segments_ JN).Memsz_) && (((rd JO.Segments_ JN).Align_ == (rd JP.Segments_ JN).Align_) && true)))))))))
        (
        .ok false)
        (
        lt ((qM (JN + (1 : Int)))) fun (JQ : Int) =>
        qt.l1 K JO JP k JQ))
      (
      qt.j2 K JO JP)
def qt.m (K : Nat) (JN : qJ) (JO : qJ) : qA Bool :=
  cond ((((((JN.Type_ != JO.Type_) || (JN.Machine_ != JO.Machine_)) || (JN.Entry_ != JO.Entry_)) || (JN.Flags_ != JO.Flags_)) || ((JN.Segments_.length : Int) != (JO.Segments_.length : Int))) || ((JN.Sections_.length : Int) != (JO.Sections_.length : Int)))
    (
    .ok false)
    (
    qt.l1 K JN JO K (0 : Int))
def ze.j1 (K : Nat) (JP : List UInt8) (JQ : Int) (JR : Int) (JN : Bool) : qA Bool :=
  lt ((((JN && ((JP.length : Int) == (208 : Int))) && (JQ == (0 : Int))) && (JR == (2 : Int)))) fun (JO : Bool) =>
  .ok JO
def ze.m (K : Nat) : qA Bool :=
  (qY.m K (qJ.mk (2 : Int) (62 : Int) (4096 : Int) (0 : Int) ([] : List qb) ([(qa.mk ([46, 116, 101, 120, 116] : List UInt8) (1 : Int) (0 : Int) (0 : Int) ([97, 98, 99] : List UInt8) (0 : Int) (0 : Int) (0 : Int) (0 : Int) (0 : Int)), (qa.mk ([46, 98, 115, 115] : List UInt8) (8 : Int) (0 : Int) (0 : Int) ([] : List UInt8) (5 : Int) (0 : Int) (0 : Int) (0 : Int) (0 : Int))] : List qa))).bind fun (J2, J3) =>
  (qu.m K J2).bind fun (JS, JP, JQ, JR, JO, JN, J4) =>
  (qY.m K (qJ.mk (0 : Int) (0 : Int) (0 : Int) (0 : Int) ([] : List qb) ([] : List qa))).bind fun (JW, JX) =>
  (qu.m K ([] : List UInt8)).bind fun (J1, JV, JZ, J0, JU, JT, JY) =>
  cond ((J3 == (0 : Int)) && (J4 == (0 : Int)))
    (
    (qt.m K (qJ.mk (2 : Int) (62 : Int) (4096 : Int) (0 : Int) ([] : List qb) ([(qa.mk ([46, 116, 101, 120, 116] : List UInt8) (1 : Int) (0 : Int) (0 : Int) ([97, 98, 99] : List UInt8) (0 : Int) (0 : Int) (0 : Int) (0 : Int) (0 : Int)), (qa.mk ([46, 98, 115, 115] : List UInt8) (8 : Int) (0 : Int) (0 : Int) ([] : List UInt8) (5 : Int) (0 : Int) (0 : Int) (0 : Int) (0 : Int))] : List qa)) (qJ.mk JS JP JQ JR JO JN)).bind fun J5 =>
    ze.j1 K JW JX JY J5)
    (
    ze.j1 K JW JX JY false)
def xB.m (K : Nat) (JN : Int) : qA Bool :=
  lt (((((JN == (1 : Int)) || (JN == (2 : Int))) || (JN == (4 : Int))) || (JN == (8 : Int)))) fun (JO : Bool) =>
  .ok JO
def qD.j2 (K : Nat) (g1 : Int → Int → qA (Int × Int)) (JO : Int) (JQ : Int) (JN : Int) : qA (Int × Int) :=
  lt ((wr .u64 ((wr .u64 (JO * (256 : Int))) + (wr .u64 JN)))) fun (JP : Int) =>
  lt ((qM (JQ + (1 : Int)))) fun (JR : Int) =>
  g1 JP JR
def qD.l1 (K : Nat) (JQ : List UInt8) (JO : Int) (JN : Int) (JR : Bool) : Nat → Int → Int → qA (Int × Int)
  | 0, _, _ => .fail
  | k + 1, JS, JP =>
    cond (decide (JP < JN))
      (
      xC (inb (qM ((qM ((qM (JO + JN)) - (1 : Int))) - JP)) JQ.length) <|
      lt (((rd JQ (qM ((qM ((qM (JO + JN)) - (1 : Int))) - JP))).toNat : Int)) fun (JT : Int) =>
      cond JR
        (
        xC (inb (qM (JO + JP)) JQ.length) <|
        lt (((rd JQ (qM (JO + JP))).toNat : Int)) fun (JU : Int) =>
        qD.j2 K (qD.l1 K JQ JO JN JR k) JS JP JU)
        (
        qD.j2 K (qD.l1 K JQ JO JN JR k) JS JP JT))
      (
      .ok (JS, (0 : Int)))
def qD.m (K : Nat) (JP : List UInt8) (JO : Int) (JN : Int) (JQ : Bool) : qA (Int × Int) :=
  (xB.m K JN).bind fun JR =>
  cond ((!JR) || (decide (JO < (0 : Int))))
    (
    .ok ((0 : Int), (1 : Int)))
    (
    cond ((decide (JO > (JP.length : Int))) || (decide (JN > (qM ((JP.length : Int) - JO)))))
      (
      .ok ((0 : Int), (2 : Int)))
      (
      qD.l1 K JP JO JN JQ K (0 : Int) (0 : Int)))
def qd.m (K : Nat) (JP : List UInt8) (JO : Int) (JN : Int) : qA Int :=
  (qD.m K JP JO JN false).bind fun (JQ, JR) =>
  .ok JQ
def zb.m (K : Nat) (JO : List UInt8) (JN : Int) (JP : Int) : qA Bool :=
  lt (((decide (JN ≤ (wr .u64 (JO.length : Int)))) && (decide (JP ≤ (wr .u64 ((wr .u64 (JO.length : Int)) - JN)))))) fun (JQ : Bool) =>
  .ok JQ
def qP.l1 (K : Nat) (JR : List UInt8) (JN : Int) (JU : Int) : Nat → (List qb) → Int → qA ((List qb) × Int)
  | 0, _, _ => .fail
  | k + 1, JQ, JP =>
    cond (decide (JP < JU))
      (
      xC (subok (qM (JN + (qM ((56 : Int) * JP)))) (qM ((qM (JN + (qM ((56 : Int) * JP)))) + (56 : Int))) JR.length) <|
      lt ((sub JR (qM (JN + (qM ((56 : Int) * JP)))) (qM ((qM (JN + (qM ((56 : Int) * JP)))) + (56 : Int))))) fun (JO : List UInt8) =>
      (qd.m K JO (8 : Int) (8 : Int)).bind fun JS =>
      (qd.m K JO (32 : Int) (8 : Int)).bind fun JT =>
      cond ((decide (JS > (1099511627776 : Int))) || (decide (JT > (1099511627776 : Int))))
        (
        .ok (([] : List qb), (3 : Int)))
        (
        (zb.m K JR JS JT).bind fun J3 =>
        cond (!J3)
          (
          .ok (([] : List qb), (2 : Int)))
          (
          (qd.m K JO (0 : Int) (4 : Int)).bind fun JV =>
          (qd.m K JO (4 : Int) (4 : Int)).bind fun JW =>
          (qd.m K JO (16 : Int) (8 : Int)).bind fun JX =>
          (qd.m K JO (24 : Int) (8 : Int)).bind fun JY =>
          (qd.m K JO (40 : Int) (8 : Int)).bind fun JZ =>
          (qd.m K JO (48 : Int) (8 : Int)).bind fun J0 =>
          xC (room (JQ.length + ([(qb.mk (wr .i64 JV) (wr .i64 JW) (wr .i64 JS) JX JY (wr .i64 JT) JZ J0)] : List qb).length) 64) <|
          lt (JQ ++ ([(qb.mk (wr .i64 JV) (wr .i64 JW) (wr .i64 JS) JX JY (wr .i64 JT) JZ J0)] : List qb)) fun (J1 : (List qb)) =>
          lt ((qM (JP + (1 : Int)))) fun (J2 : Int) =>
          qP.l1 K JR JN JU k J1 J2)))
      (
      .ok (JQ, (0 : Int)))
def qP.m (K : Nat) (JP : List UInt8) (JN : Int) (JO : Int) : qA ((List qb) × Int) :=
  qP.l1 K JP JN JO K ([] : List qb) (0 : Int)
def qm.j4 (K : Nat) (g3 : (List qa) → (List Int) → Int → qA ((List qa) × (List Int) × Int)) (JQ : (List qa)) (JN : (List Int)) (J2 : Int) (J1 : List UInt8) (JR : Int) (JS : Int) (JT : Int) (JU : Int) (JV : Int) (JW : Int) (JX : Int) (JO : List UInt8) (JP : Int) : qA ((List qa) × (List Int) × Int) :=
  xC (room (JQ.length + ([(qa.mk ([] : List UInt8) (wr .i64 JR) JS JT JO JP (wr .i64 JU) (wr .i64 JV) JW JX)] : List qa).length) 96) <|
  lt (JQ ++ ([(qa.mk ([] : List UInt8) (wr .i64 JR) JS JT JO JP (wr .i64 JU) (wr .i64 JV) JW JX)] : List qa)) fun (JZ : (List qa)) =>
  (qd.m K J1 (0 : Int) (4 : Int)).bind fun JY =>
  xC (room (JN.length + ([JY] : List Int).length) 8) <|
  lt (JN ++ ([JY] : List Int)) fun (J0 : (List Int)) =>
  lt ((qM (J2 + (1 : Int)))) fun (J3 : Int) =>
  g3 JZ J0 J3
def qm.j5 (K : Nat)  (JO : (List qa)) (JN : (List Int)) : qA ((List qa) × (List Int) × Int) :=
  .ok (JO, JN, (0 : Int))
def qm.l3 (K : Nat) (JR : List UInt8) (JO : Int) (JV : Int) : Nat → (List qa) → (List Int) → Int → qA ((List qa) × (List Int) × Int)
  | 0, _, _, _ => .fail
  | k + 1, JT, JP, JQ =>
    cond (decide (JQ < JV))
      (
      xC (subok (qM (JO + (qM ((64 : Int) * JQ)))) (qM ((qM (JO + (qM ((64 : Int) * JQ)))) + (64 : Int))) JR.length) <|
      lt ((sub JR (qM (JO + (qM ((64 : Int) * JQ)))) (qM ((qM (JO + (qM ((64 : Int) * JQ)))) + (64 : Int))))) fun (JN : List UInt8) =>
      (qd.m K JN (4 : Int) (4 : Int)).bind fun JW =>
      (qd.m K JN (8 : Int) (8 : Int)).bind fun JX =>
      (qd.m K JN (16 : Int) (8 : Int)).bind fun JY =>
      (qd.m K JN (40 : Int) (4 : Int)).bind fun JZ =>
      (qd.m K JN (44 : Int) (4 : Int)).bind fun J0 =>
      (qd.m K JN (48 : Int) (8 : Int)).bind fun J1 =>
      (qd.m K JN (56 : Int) (8 : Int)).bind fun J2 =>
      (qd.m K JN (24 : Int) (8 : Int)).bind fun JS =>
      (qd.m K JN (32 : Int) (8 : Int)).bind fun JU =>
      cond ((decide (JS > (1099511627776 : Int))) || (decide (JU > (1099511627776 : Int))))
        (
        .ok (([] : List qa), ([] : List Int), (3 : Int)))
        (
        cond ((wr .i64 JW) == (8 : Int))
          (
          qm.j4 K (qm.l3 K JR JO JV k) JT JP JQ JN JW JX JY JZ J0 J1 J2 ([] : List UInt8) (wr .i64 JU))
          (
          (zb.m K JR JS JU).bind fun J3 =>
          cond (!J3)
            (
            .ok (([] : List qa), ([] : List Int), (2 : Int)))
            (
            xC (subok JS (wr .u64 (JS + JU)) JR.length) <|
            qm.j4 K (qm.l3 K JR JO JV k) JT JP JQ JN JW JX JY JZ J0 J1 J2 (sub JR JS (wr .u64 (JS + JU))) (0 : Int)))))
      (
      qm.j5 K JT JP)
def qm.j2 (K : Nat) (JP : List UInt8) (JN : Int) (JO : Int) : qA ((List qa) × (List Int) × Int) :=
  qm.l3 K JP JN JO K ([] : List qa) ([] : List Int) (1 : Int)
def qm.l1 (K : Nat) (JP : List UInt8) (JN : Int) (JQ : Int) : Nat → Int → qA ((List qa) × (List Int) × Int)
  | 0, _ => .fail
  | k + 1, JO =>
    cond (decide (JO < (64 : Int)))
      (
      xC (inb (qM (JN + JO)) JP.length) <|
      cond (((rd JP (qM (JN + JO))).toNat : Int) != (0 : Int))
        (
        .ok (([] : List qa), ([] : List Int), (3 : Int)))
        (
        lt ((qM (JO + (1 : Int)))) fun (JR : Int) =>
        qm.l1 K JP JN JQ k JR))
      (
      qm.j2 K JP JN JQ)
def qm.m (K : Nat) (JP : List UInt8) (JN : Int) (JO : Int) : qA ((List qa) × (List Int) × Int) :=
  qm.l1 K JP JN JO K (0 : Int)
def q9.l1 (K : Nat) (JN : List UInt8) (JO : Int) : Nat → Int → qA ((List UInt8) × Bool)
  | 0, _ => .fail
  | k + 1, JP =>
    cond (decide (JP < (JN.length : Int)))
      (
      xC (inb JP JN.length) <|
      cond (((rd JN JP).toNat : Int) == (0 : Int))
        (
        xC (subok JO JP JN.length) <|
        lt ((sub JN JO JP)) fun (JR : List UInt8) =>
        lt ((decide ((qM (JP - (wr .i64 JO))) ≤ (200 : Int)))) fun (JS : Bool) =>
        .ok (JR, JS))
        (
        lt ((qM (JP + (1 : Int)))) fun (JQ : Int) =>
        q9.l1 K JN JO k JQ))
      (
      .ok (([] : List UInt8), false))
def q9.m (K : Nat) (JN : List UInt8) (JO : Int) : qA ((List UInt8) × Bool) :=
  cond (decide (JO > (wr .u64 (JN.length : Int))))
    (
    .ok (([] : List UInt8), false))
    (
    lt ((wr .i64 JO)) fun (JP : Int) =>
    q9.l1 K JN JO K JP)
def qe.j8 (K : Nat) (g6 : (List qa) → Int → qA (Int × Int × Int × Int × (List qb) × (List qa) × Int)) (JN : (List qa)) (JO : Int) (JS : List UInt8) (JR : Bool) : qA (Int × Int × Int × Int × (List qb) × (List qa) × Int) :=
  cond JR
    (
    .ok ((0 : Int), (0 : Int), (0 : Int), (0 : Int), ([] : List qb), ([] : List qa), (3 : Int)))
    (
    xC (inb JO JN.length) <|
    lt (JN.set (Int.toNat JO) (qa.mk JS ((rd JN JO).Type_) ((rd JN JO).Flags_) ((rd JN JO).Addr_) ((rd JN JO).Data_) ((rd JN JO).Size_) ((rd JN JO).Link_) ((rd JN JO).Info_) ((rd JN JO).Align_) ((rd JN JO).Each_))) fun (JP : (List qa)) =>
    lt ((qM (JO + (1 : Int)))) fun (JQ : Int) =>
    g6 JP JQ)
def qe.j7 (K : Nat) (g6 : (List qa) → Int → qA (Int × Int × Int × Int × (List qb) × (List qa) × Int)) (JN : (List qa)) (JO : Int) (JQ : List UInt8) (JR : Bool) (JP : Bool) : qA (Int × Int × Int × Int × (List qb) × (List qa) × Int) :=
  qe.j8 K (g6) JN JO JQ JP
def qe.j9 (K : Nat) (JQ : Int) (JR : Int) (JS : Int) (JT : Int) (JO : (List qb)) (JN : (List qa)) : qA (Int × Int × Int × Int × (List qb) × (List qa) × Int) :=
  xC (subok (0 : Int) (qM ((JN.length : Int) - (1 : Int))) JN.length) <|
  lt (sub JN 0 (qM ((JN.length : Int) - (1 : Int)))) fun (JP : (List qa)) =>
  .ok ((wr .i64 JQ), (wr .i64 JR), JS, (wr .i64 JT), JO, JP, (0 : Int))
def qe.l6 (K : Nat) (JS : Int) (JT : Int) (JU : Int) (JV : Int) (JN : (List qb)) (JQ : (List qa)) (JR : (List Int)) : Nat → (List qa) → Int → qA (Int × Int × Int × Int × (List qb) × (List qa) × Int)
  | 0, _, _ => .fail
  | k + 1, JO, JP =>
    cond (decide (JP < (JO.length : Int)))
      (
      xC (inb JP JR.length) <|
      (q9.m K ((rd JQ (qM ((JQ.length : Int) - (1 : Int)))).Data_) (rd JR JP)).bind fun (JW, JX) =>
      cond (!JX)
        (
        qe.j8 K (qe.l6 K JS JT JU JV JN JQ JR k) JO JP JW true)
        (
        cond (JP == (qM ((JO.length : Int) - (1 : Int))))
          (
          qe.j7 K (qe.l6 K JS JT JU JV JN JQ JR k) JO JP JW true (!(JW == ([46, 115, 104, 115, 116, 114, 116, 97, 98] : List UInt8))))
          (
          qe.j7 K (qe.l6 K JS JT JU JV JN JQ JR k) JO JP JW false false)))
      (
      qe.j9 K JS JT JU JV JN JO)
def qe.j5 (K : Nat) (JS : List UInt8) (JR : Int) (JT : Int) (JU : Int) (JV : Int) (JW : Int) (JX : Int) (JO : (List qb)) (JP : Int) : qA (Int × Int × Int × Int × (List qb) × (List qa) × Int) :=
  cond (JP != (0 : Int))
    (
    .ok ((0 : Int), (0 : Int), (0 : Int), (0 : Int), ([] : List qb), ([] : List qa), JP))
    (
    (qm.m K JS (wr .i64 JT) JR).bind fun (JN, JY, JQ) =>
    cond (JQ != (0 : Int))
      (
      .ok ((0 : Int), (0 : Int), (0 : Int), (0 : Int), ([] : List qb), ([] : List qa), JQ))
      (
      xC (inb (qM ((JN.length : Int) - (1 : Int))) JN.length) <|
      cond ((rd JN (qM ((JN.length : Int) - (1 : Int)))).Type_ != (3 : Int))
        (
        .ok ((0 : Int), (0 : Int), (0 : Int), (0 : Int), ([] : List qb), ([] : List qa), (3 : Int)))
        (
        qe.l6 K JU JV JW JX JO JN JY K JN (0 : Int))))
def qe.j4 (K : Nat) (JN : List UInt8) (JP : Int) (JO : Int) (JW : Int) (JQ : Int) (JV : Bool) : qA (Int × Int × Int × Int × (List qb) × (List qa) × Int) :=
  cond JV
    (
    .ok ((0 : Int), (0 : Int), (0 : Int), (0 : Int), ([] : List qb), ([] : List qa), (2 : Int)))
    (
    (qd.m K JN (16 : Int) (2 : Int)).bind fun JR =>
    (qd.m K JN (18 : Int) (2 : Int)).bind fun JS =>
    (qd.m K JN (24 : Int) (8 : Int)).bind fun JT =>
    (qd.m K JN (48 : Int) (4 : Int)).bind fun JU =>
    cond (decide (JP > (0 : Int)))
      (
      (qP.m K JN (wr .i64 JW) JP).bind fun (JX, JY) =>
      qe.j5 K JN JO JQ JR JS JT JU JX JY)
      (
      qe.j5 K JN JO JQ JR JS JT JU ([] : List qb) (0 : Int)))
def qe.j3 (K : Nat) (JP : List UInt8) (JO : Int) (JN : Int) (JR : Int) (JQ : Int) (JS : Bool) : qA (Int × Int × Int × Int × (List qb) × (List qa) × Int) :=
  cond JS
    (
    qe.j4 K JP JO JN JR JQ true)
    (
    (zb.m K JP JQ (wr .u64 (qM ((64 : Int) * JN)))).bind fun JT =>
    qe.j4 K JP JO JN JR JQ (!JT))
def qe.j2 (K : Nat) (JO : List UInt8) (JN : Int) (JP : Int) (JS : Bool) : qA (Int × Int × Int × Int × (List qb) × (List qa) × Int) :=
  cond ((JS || (decide (JN > (1000 : Int)))) || (decide (JP > (1002 : Int))))
    (
    .ok ((0 : Int), (0 : Int), (0 : Int), (0 : Int), ([] : List qb), ([] : List qa), (3 : Int)))
    (
    (qd.m K JO (32 : Int) (8 : Int)).bind fun JQ =>
    (qd.m K JO (40 : Int) (8 : Int)).bind fun JR =>
    cond (decide (JN > (0 : Int)))
      (
      (zb.m K JO JQ (wr .u64 (qM ((56 : Int) * JN)))).bind fun JT =>
      qe.j3 K JO JN JP JQ JR (!JT))
      (
      qe.j3 K JO JN JP JQ JR false))
def qe.j1 (K : Nat) (JP : List UInt8) (JO : Int) (JN : Int) (JQ : Bool) : qA (Int × Int × Int × Int × (List qb) × (List qa) × Int) :=
  cond JQ
    (
    .ok ((0 : Int), (0 : Int), (0 : Int), (0 : Int), ([] : List qb), ([] : List qa), (3 : Int)))
    (
    cond (decide (JN < (2 : Int)))
      (
      qe.j2 K JP JO JN true)
      (
      (qd.m K JP (62 : Int) (2 : Int)).bind fun JR =>
      qe.j2 K JP JO JN ((wr .i64 JR) != (qM (JN - (1 : Int))))))
def qe.m (K : Nat) (JN : List UInt8) : qA (Int × Int × Int × Int × (List qb) × (List qa) × Int) :=
  cond (decide ((JN.length : Int) < (64 : Int)))
    (
    .ok ((0 : Int), (0 : Int), (0 : Int), (0 : Int), ([] : List qb), ([] : List qa), (2 : Int)))
    (
    (qd.m K JN (56 : Int) (2 : Int)).bind fun JR =>
    lt ((wr .i64 JR)) fun (JP : Int) =>
    (qd.m K JN (60 : Int) (2 : Int)).bind fun JS =>
    lt ((wr .i64 JS)) fun (JO : Int) =>
    xC (subok (0 : Int) (16 : Int) JN.length) <|
    xC (decide (0 ≤ (9 : Int)) && room (Int.toNat (9 : Int)) 1) <|
    lt (List.replicate (Int.toNat (9 : Int)) (0 : Int)) fun (JQ : (List Int)) =>
    xC (Qy (([127, 69, 76, 70, 2, 1, 1] : List UInt8).length + (JQ.map yt).length)) <|
    cond (!((sub JN (0 : Int) (16 : Int)) == (([127, 69, 76, 70, 2, 1, 1] : List UInt8) ++ (JQ.map yt))))
      (
      qe.j1 K JN JP JO true)
      (
      (qd.m K JN (20 : Int) (4 : Int)).bind fun JT =>
      cond (JT != (1 : Int))
        (
        qe.j1 K JN JP JO true)
        (
        (qd.m K JN (52 : Int) (2 : Int)).bind fun JU =>
        cond (JU != (64 : Int))
          (
          qe.j1 K JN JP JO true)
          (
          (qd.m K JN (54 : Int) (2 : Int)).bind fun JV =>
          cond (JV != (56 : Int))
            (
            qe.j1 K JN JP JO true)
            (
            (qd.m K JN (58 : Int) (2 : Int)).bind fun JW =>
            qe.j1 K JN JP JO (JW != (64 : Int)))))))
def qB.j2 (K : Nat)  (JN : Bool) : qA Bool :=
  .ok JN
def qB.j1 (K : Nat)  (JN : Bool) : qA Bool :=
  cond JN
    (
    (ze.m K).bind fun JO =>
    qB.j2 K JO)
    (
    qB.j2 K false)
def qB.m (K : Nat) (s1 : List UInt8) : qA Bool :=
  cond (decide ((s1.length : Int) > (100000 : Int)))
    (
    (ze.m K).bind fun JZ =>
    .ok JZ)
    (
    (qu.m K s1).bind fun (JX, JR, JT, JV, JP, JN, J0) =>
    (qe.m K s1).bind fun (JY, JS, JU, JW, JQ, JO, J1) =>
    cond (J0 == J1)
      (
      (qt.m K (qJ.mk JX JR JT JV JP JN) (qJ.mk JY JS JU JW JQ JO)).bind fun J2 =>
      qB.j1 K J2)
      (
      qB.j1 K false))
end Go.Mo
