/- Printed by a program of mine: each Go function answers what its model answers; conditions: what each theorem asks of memory. -/
import Derived.Test.YthoecbfhfglmpaaDoorMmlhfm
import Derived.Test.YthoecbfhfglmpaaDoorChecked
set_option linter.unusedVariables false
set_option linter.unusedSimpArgs false
set_option maxRecDepth 100000
namespace Go.Proofs
open Go.Shelf
def Tryd.lays105_ren : Go.Shelf.Ren := ⟨fun | 105 => 38 | 212 => 70 | 99 => 71 | 165 => 72 | 166 => 37 | 170 => 41 | 169 => 42 | 263 => 87 | 264 => 88 | 206 => 89 | 240 => 69 | 241 => 90 | 276 => 86 | 277 => 101 | n => n, fun | 9 => 9 | 3 => 3 | 4 => 4 | 20 => 20 | 0 => 0 | 46 => 120 | 109 => 121 | 5 => 5 | 72 => 81 | 76 => 91 | 51 => 137 | 146 => 138 | 53 => 23 | 148 => 140 | 70 => 79 | 37 => 40 | 75 => 90 | 127 => 126 | 164 => 135 | 80 => 62 | n => n, fun | n => n⟩
theorem Tryd.lays105 : Go.Proofs.Lays.n105 Tryd.prog Tryd.lays105_ren := {
  mixed := by kernel_rfl
  f99 := Tryd.func71.trans (congrArg some (by kernel_rfl))
  f105 := Tryd.func38.trans (congrArg some (by kernel_rfl))
  f165 := Tryd.func72.trans (congrArg some (by kernel_rfl))
  f166 := Tryd.func37.trans (congrArg some (by kernel_rfl))
  f169 := Tryd.func42.trans (congrArg some (by kernel_rfl))
  f170 := Tryd.func41.trans (congrArg some (by kernel_rfl))
  f206 := Tryd.func89.trans (congrArg some (by kernel_rfl))
  f212 := Tryd.func70.trans (congrArg some (by kernel_rfl))
  f240 := Tryd.func69.trans (congrArg some (by kernel_rfl))
  f241 := Tryd.func90.trans (congrArg some (by kernel_rfl))
  f263 := Tryd.func87.trans (congrArg some (by kernel_rfl))
  f264 := Tryd.func88.trans (congrArg some (by kernel_rfl))
  f276 := Tryd.func86.trans (congrArg some (by kernel_rfl))
  f277 := Tryd.func101.trans (congrArg some (by kernel_rfl))
  t0 := Tryd.underlying0
  a0 := Tryd.isAgg0
  z0 := Tryd.sizeOf0
  v0 := Tryd.zeroValue0
  t3 := Tryd.underlying3
  a3 := Tryd.isAgg3
  z3 := Tryd.sizeOf3
  v3 := Tryd.zeroValue3
  t4 := Tryd.underlying4
  a4 := Tryd.isAgg4
  z4 := Tryd.sizeOf4
  v4 := Tryd.zeroValue4
  t5 := Tryd.underlying5
  a5 := Tryd.isAgg5
  z5 := Tryd.sizeOf5
  v5 := Tryd.zeroValue5
  t9 := Tryd.underlying9
  a9 := Tryd.isAgg9
  z9 := Tryd.sizeOf9
  v9 := Tryd.zeroValue9
  t20 := Tryd.underlying20
  a20 := Tryd.isAgg20
  z20 := Tryd.sizeOf20
  v20 := Tryd.zeroValue20
  t37 := Tryd.underlying40
  a37 := Tryd.isAgg40
  z37 := Tryd.sizeOf40
  v37 := Tryd.zeroValue40
  t46 := Tryd.underlying120
  a46 := Tryd.isAgg120
  z46 := Tryd.sizeOf120
  v46 := Tryd.zeroValue120
  t51 := Tryd.underlying137
  a51 := Tryd.isAgg137
  z51 := Tryd.sizeOf137
  v51 := Tryd.zeroValue137
  t53 := Tryd.underlying23
  a53 := Tryd.isAgg23
  z53 := Tryd.sizeOf23
  v53 := Tryd.zeroValue23
  t70 := Tryd.underlying79
  a70 := Tryd.isAgg79
  z70 := Tryd.sizeOf79
  v70 := Tryd.zeroValue79
  t72 := Tryd.underlying81
  a72 := Tryd.isAgg81
  z72 := Tryd.sizeOf81
  v72 := Tryd.zeroValue81
  t75 := Tryd.underlying90
  a75 := Tryd.isAgg90
  z75 := Tryd.sizeOf90
  v75 := Tryd.zeroValue90
  t76 := Tryd.underlying91
  a76 := Tryd.isAgg91
  z76 := Tryd.sizeOf91
  v76 := Tryd.zeroValue91
  t109 := Tryd.underlying121
  a109 := Tryd.isAgg121
  z109 := Tryd.sizeOf121
  v109 := Tryd.zeroValue121
  t127 := Tryd.underlying126
  a127 := Tryd.isAgg126
  z127 := Tryd.sizeOf126
  v127 := Tryd.zeroValue126
  t146 := Tryd.underlying138
  a146 := Tryd.isAgg138
  z146 := Tryd.sizeOf138
  v146 := Tryd.zeroValue138
  t148 := Tryd.underlying140
  a148 := Tryd.isAgg140
  z148 := Tryd.sizeOf140
  v148 := Tryd.zeroValue140
  t164 := Tryd.underlying135
  a164 := Tryd.isAgg135
  z164 := Tryd.sizeOf135
  v164 := Tryd.zeroValue135 }
theorem Tryd.Builder_Extra_105 : Builder.Extra Tryd.prog Tryd.lays105_ren := {
  sizeBuilder := by kernel_rfl
  liesBuilder := by kernel_rfl
  t5 := Tryd.underlying5
  a5 := Tryd.isAgg5
  z5 := Tryd.sizeOf5
  v5 := Tryd.zeroValue5
  infoByte := by kernel_rfl
  cellsByte := by kernel_rfl
  sizeByte := by kernel_rfl
  neB5 := by decide }
open Go.RowKit Go.Lib in
/-- **strings.Repeat: count ≥ 0, the result within one allocation: count copies of s.** (LAID: no walk: one application.) -/
theorem Tryd.strings_Repeat (s : ByteArray) (c : Nat) (w : World) (hc : c ≤ 9223372036854775807) (hlen : s.size * c ≤ 140737488355328) :
    Calls Tryd.prog 38 #[.string s, .int .i64 c] w fun e w' => e = .returned (.string ⟨(Lib.repeatL s.data.toList c).toArray⟩) ∧ Below w.heap.size w w' := Any.strings_Repeat Tryd.lays105 Tryd.Builder_Extra_105 s c w hc hlen
end Go.Proofs
set_option maxRecDepth 100000
namespace Go.TrydS
open Go Go.Sl Go.Mo Go.Proofs
attribute [local irreducible] qA.wp
theorem xe : Tryd.prog.follows .mixedOrders = true := by kernel_rfl
def _root_.Go.Mo.qa.cells (x : qa) : List Value := [qr x.Name_, .int .i64 x.Type_, .int .u64 x.Flags_, .int .u64 x.Addr_, qr x.Data_, .int .i64 x.Size_, .int .i64 x.Link_, .int .i64 x.Info_, .int .u64 x.Align_, .int .u64 x.Each_]
def _root_.Go.Mo.qb.cells (x : qb) : List Value := [.int .i64 x.Type_, .int .i64 x.Flags_, .int .i64 x.Offset_, .int .u64 x.Vaddr_, .int .u64 x.Paddr_, .int .i64 x.Filesz_, .int .u64 x.Memsz_, .int .u64 x.Align_]
def _root_.Go.Mo.qq.cells (x : qq) : List Value := [qr x.text_, .int .i64 x.base_]
def _root_.Go.Mo.zh.cells (x : zh) : List Value := [qr x.whole_.text_, .int .i64 x.whole_.base_]
def _root_.Go.Mo.qh.cells (x : qh) : List Value := [qr x.Window_.text_, .int .i64 x.Window_.base_, .int .i64 x.next_]
theorem X.el3 : El Tryd.prog 3 1 8 := ⟨_, _, Tryd.typeInfo3, rfl, rfl, rfl, rfl⟩
theorem X.el5 : El Tryd.prog 5 1 1 := ⟨_, _, Tryd.typeInfo5, rfl, rfl, rfl, rfl⟩
theorem X.el23 : El Tryd.prog 23 1 8 := ⟨_, _, Tryd.typeInfo23, rfl, rfl, rfl, rfl⟩
theorem X.el43 : El Tryd.prog 43 10 96 := ⟨_, _, Tryd.typeInfo43, rfl, rfl, rfl, rfl⟩
theorem X.el58 : El Tryd.prog 58 8 64 := ⟨_, _, Tryd.typeInfo58, rfl, rfl, rfl, rfl⟩
theorem XW : ∀ x, ∀ u ∈ (ci .i64) x, u.oneCell' = true := fun x u hu => by cases hu with | head => rfl | tail _ h => cases h
theorem QE : ∀ x, ∀ u ∈ (ci .u8) x, u.oneCell' = true := fun x u hu => by cases hu with | head => rfl | tail _ h => cases h
theorem ZH : ∀ x, ∀ u ∈ cs x, u.oneCell' = true := fun x u hu => by cases hu with | head => rfl | tail _ h => cases h
theorem Xc : ∀ x, ∀ u ∈ (ci .u64) x, u.oneCell' = true := fun x u hu => by cases hu with | head => rfl | tail _ h => cases h
theorem QT : ∀ x, ∀ u ∈ qa.cells x, u.oneCell' = true := by
  intro x u hu
  simp only [qa.cells, List.mem_cons, List.not_mem_nil, or_false] at hu
  rcases hu with rfl | rfl | rfl | rfl | rfl | rfl | rfl | rfl | rfl | rfl <;> rfl
theorem QU : ∀ x, ∀ u ∈ qb.cells x, u.oneCell' = true := by
  intro x u hu
  simp only [qb.cells, List.mem_cons, List.not_mem_nil, or_false] at hu
  rcases hu with rfl | rfl | rfl | rfl | rfl | rfl | rfl | rfl <;> rfl
structure Gl (H : zB) : Prop where
  any : True
theorem Zl {H : zB} {F : List qj} {w : World} {R : Ending → World → Prop} {b : Nat} {f : qj} {A : Option Addr} {l : List Value} (hn : l.length = 2) (hk : l[0]? = some (.pointer A)) (hB : zH f b l 83) (hA : A = none ∨ A = some ⟨b, 0, none⟩) (hS : St w H [f] F)
    (hret : ∀ (A' : Option Addr) (f' : qj) (w : World), (A' = none ∨ A' = some ⟨b, 0, none⟩) → zH f' b (l.set 0 (.pointer A')) 83 → St w H [f'] F → R (.returned (.tuple ⟨[]⟩)) w) : Calls Tryd.prog 69 ⟨[qp b 0]⟩ w R := by
 rcases hA with rfl | rfl
 ·refine enter Tryd.func69 rfl Tryd.ntmps69 rfl hS fun a w hS => ?_
  refine qn <| sM hS rfl fun hS => sO hS (xm rfl) rfl fun hS => sO hS (qU rfl Tryd.runUnderlying81 rfl Tryd.sizeOf79 rfl) rfl fun hS => sO hS (zD 0 rfl hB rfl hk Tryd.isAgg79) rfl fun hS => sO hS (vF rfl rfl Tryd.runUnderlying79) rfl fun hS => qs <| jn hS rfl ?_
  refine zI <| sM hS rfl fun hS => sM hS rfl fun hS => sO hS (YM 0 rfl hB rfl Tryd.underlying79 Tryd.underlying135 (z := 1) (by kernel_rfl) (by rw [hn]; rfl)) rfl fun hS => sO hS (ZZ rfl (fun args w => run_callFunc_extern Tryd.func86 (by kernel_rfl) (by kernel_rfl) (by kernel_rfl) (by kernel_rfl) args w)) rfl fun hS => sO hS (YJ 0 rfl hB rfl Tryd.underlying135 Tryd.underlying79 (z := 2) (by kernel_rfl) (by rw [hn]; kernel_rfl)) rfl fun hS => sO hS (xm rfl) rfl fun hS => sO hS (qU rfl Tryd.runUnderlying81 rfl Tryd.sizeOf79 rfl) rfl fun hS => y3 0 (l.set 0 (.pointer (some ⟨b, 0, none⟩))) hS rfl rfl hB rfl rfl (by rw [hn]; rfl) rfl Tryd.sizeOf79 fun w f' hB' hS => qN ?_
  exact x1 (rs := []) hS rfl rfl (hret _ _ _ (.inr rfl) hB' (hS.st.pick [0] (by kernel_rfl)))
 ·have e : l.set 0 (.pointer (some ⟨b, 0, none⟩)) = l := by
   obtain ⟨h1, h2⟩ := List.getElem?_eq_some_iff.1 hk
   rw [← h2]; exact List.set_getElem_self h1
  refine enter Tryd.func69 rfl Tryd.ntmps69 rfl hS fun a w hS => ?_
  refine qn <| sM hS rfl fun hS => sO hS (xm rfl) rfl fun hS => sO hS (qU rfl Tryd.runUnderlying81 rfl Tryd.sizeOf79 rfl) rfl fun hS => sO hS (zD 0 rfl hB rfl hk Tryd.isAgg79) rfl fun hS => sO hS (vF rfl rfl Tryd.runUnderlying79) rfl fun hS => qs <| yC hS rfl ?_
  refine qn <| sM hS rfl fun hS => sO hS (xm rfl) rfl fun hS => sO hS (qU rfl Tryd.runUnderlying81 rfl Tryd.sizeOf79 rfl) rfl fun hS => sO hS (zD 0 rfl hB rfl hk Tryd.isAgg79) rfl fun hS => sM hS rfl fun hS => sO hS (uS rfl rfl Tryd.underlying79 (z := 2) (by kernel_rfl)) rfl fun hS => qs <| yC hS rfl <| wp_skip ?_
  exact x1 (rs := []) hS rfl rfl (hret _ _ _ (.inr rfl) (e.symm ▸ hB) (hS.st.pick [0] (by kernel_rfl)))
theorem jZ {H : zB} {F : List qj} {w : World} {R : Ending → World → Prop} {b : Nat} {f : qj} {A : Option Addr} {l : List Value} (hn : l.length = 6) (hk : l[0]? = some (.pointer A)) (hB : zH f b l 85) (hA : A = none ∨ A = some ⟨b, 0, none⟩) (hS : St w H [f] F)
    (hret : ∀ (A' : Option Addr) (f' : qj) (w : World), (A' = none ∨ A' = some ⟨b, 0, none⟩) → zH f' b (l.set 0 (.pointer A')) 85 → St w H [f'] F → R (.returned (.tuple ⟨[]⟩)) w) : Calls Tryd.prog 69 ⟨[qp b 0]⟩ w R := by
 rcases hA with rfl | rfl
 ·refine enter Tryd.func69 rfl Tryd.ntmps69 rfl hS fun a w hS => ?_
  refine qn <| sM hS rfl fun hS => sO hS (xm rfl) rfl fun hS => sO hS (qU rfl Tryd.runUnderlying81 rfl Tryd.sizeOf79 rfl) rfl fun hS => sO hS (zD 0 rfl hB rfl hk Tryd.isAgg79) rfl fun hS => sO hS (vF rfl rfl Tryd.runUnderlying79) rfl fun hS => qs <| jn hS rfl ?_
  refine zI <| sM hS rfl fun hS => sM hS rfl fun hS => sO hS (YM 0 rfl hB rfl Tryd.underlying79 Tryd.underlying135 (z := 1) (by kernel_rfl) (by rw [hn]; rfl)) rfl fun hS => sO hS (ZZ rfl (fun args w => run_callFunc_extern Tryd.func86 (by kernel_rfl) (by kernel_rfl) (by kernel_rfl) (by kernel_rfl) args w)) rfl fun hS => sO hS (YJ 0 rfl hB rfl Tryd.underlying135 Tryd.underlying79 (z := 2) (by kernel_rfl) (by rw [hn]; kernel_rfl)) rfl fun hS => sO hS (xm rfl) rfl fun hS => sO hS (qU rfl Tryd.runUnderlying81 rfl Tryd.sizeOf79 rfl) rfl fun hS => y3 0 (l.set 0 (.pointer (some ⟨b, 0, none⟩))) hS rfl rfl hB rfl rfl (by rw [hn]; rfl) rfl Tryd.sizeOf79 fun w f' hB' hS => qN ?_
  exact x1 (rs := []) hS rfl rfl (hret _ _ _ (.inr rfl) hB' (hS.st.pick [0] (by kernel_rfl)))
 ·have e : l.set 0 (.pointer (some ⟨b, 0, none⟩)) = l := by
   obtain ⟨h1, h2⟩ := List.getElem?_eq_some_iff.1 hk
   rw [← h2]; exact List.set_getElem_self h1
  refine enter Tryd.func69 rfl Tryd.ntmps69 rfl hS fun a w hS => ?_
  refine qn <| sM hS rfl fun hS => sO hS (xm rfl) rfl fun hS => sO hS (qU rfl Tryd.runUnderlying81 rfl Tryd.sizeOf79 rfl) rfl fun hS => sO hS (zD 0 rfl hB rfl hk Tryd.isAgg79) rfl fun hS => sO hS (vF rfl rfl Tryd.runUnderlying79) rfl fun hS => qs <| yC hS rfl ?_
  refine qn <| sM hS rfl fun hS => sO hS (xm rfl) rfl fun hS => sO hS (qU rfl Tryd.runUnderlying81 rfl Tryd.sizeOf79 rfl) rfl fun hS => sO hS (zD 0 rfl hB rfl hk Tryd.isAgg79) rfl fun hS => sM hS rfl fun hS => sO hS (uS rfl rfl Tryd.underlying79 (z := 2) (by kernel_rfl)) rfl fun hS => qs <| yC hS rfl <| wp_skip ?_
  exact x1 (rs := []) hS rfl rfl (hret _ _ _ (.inr rfl) (e.symm ▸ hB) (hS.st.pick [0] (by kernel_rfl)))
theorem Zm {H : zB} {F : List qj} {w : World} {R : Ending → World → Prop} {b : Nat} {f : qj} {A : Option Addr} {l : List Value} (hn : l.length = 6) (hk : l[2]? = some (.pointer A)) (hB : zH f b l 85) (hA : A = none ∨ A = some ⟨b, 2, none⟩) (hS : St w H [f] F)
    (hret : ∀ (A' : Option Addr) (f' : qj) (w : World), (A' = none ∨ A' = some ⟨b, 2, none⟩) → zH f' b (l.set 2 (.pointer A')) 85 → St w H [f'] F → R (.returned (.tuple ⟨[]⟩)) w) : Calls Tryd.prog 69 ⟨[qp b 2]⟩ w R := by
 rcases hA with rfl | rfl
 ·refine enter Tryd.func69 rfl Tryd.ntmps69 rfl hS fun a w hS => ?_
  refine qn <| sM hS rfl fun hS => sO hS (xm rfl) rfl fun hS => sO hS (qU rfl Tryd.runUnderlying81 rfl Tryd.sizeOf79 rfl) rfl fun hS => sO hS (zD 0 rfl hB rfl hk Tryd.isAgg79) rfl fun hS => sO hS (vF rfl rfl Tryd.runUnderlying79) rfl fun hS => qs <| jn hS rfl ?_
  refine zI <| sM hS rfl fun hS => sM hS rfl fun hS => sO hS (YM 0 rfl hB rfl Tryd.underlying79 Tryd.underlying135 (z := 1) (by kernel_rfl) (by rw [hn]; rfl)) rfl fun hS => sO hS (ZZ rfl (fun args w => run_callFunc_extern Tryd.func86 (by kernel_rfl) (by kernel_rfl) (by kernel_rfl) (by kernel_rfl) args w)) rfl fun hS => sO hS (YJ 0 rfl hB rfl Tryd.underlying135 Tryd.underlying79 (z := 2) (by kernel_rfl) (by rw [hn]; kernel_rfl)) rfl fun hS => sO hS (xm rfl) rfl fun hS => sO hS (qU rfl Tryd.runUnderlying81 rfl Tryd.sizeOf79 rfl) rfl fun hS => y3 0 (l.set 2 (.pointer (some ⟨b, 2, none⟩))) hS rfl rfl hB rfl rfl (by rw [hn]; rfl) rfl Tryd.sizeOf79 fun w f' hB' hS => qN ?_
  exact x1 (rs := []) hS rfl rfl (hret _ _ _ (.inr rfl) hB' (hS.st.pick [0] (by kernel_rfl)))
 ·have e : l.set 2 (.pointer (some ⟨b, 2, none⟩)) = l := by
   obtain ⟨h1, h2⟩ := List.getElem?_eq_some_iff.1 hk
   rw [← h2]; exact List.set_getElem_self h1
  refine enter Tryd.func69 rfl Tryd.ntmps69 rfl hS fun a w hS => ?_
  refine qn <| sM hS rfl fun hS => sO hS (xm rfl) rfl fun hS => sO hS (qU rfl Tryd.runUnderlying81 rfl Tryd.sizeOf79 rfl) rfl fun hS => sO hS (zD 0 rfl hB rfl hk Tryd.isAgg79) rfl fun hS => sO hS (vF rfl rfl Tryd.runUnderlying79) rfl fun hS => qs <| yC hS rfl ?_
  refine qn <| sM hS rfl fun hS => sO hS (xm rfl) rfl fun hS => sO hS (qU rfl Tryd.runUnderlying81 rfl Tryd.sizeOf79 rfl) rfl fun hS => sO hS (zD 0 rfl hB rfl hk Tryd.isAgg79) rfl fun hS => sM hS rfl fun hS => sO hS (uS rfl rfl Tryd.underlying79 (z := 2) (by kernel_rfl)) rfl fun hS => qs <| yC hS rfl <| wp_skip ?_
  exact x1 (rs := []) hS rfl rfl (hret _ _ _ (.inr rfl) (e.symm ▸ hB) (hS.st.pick [0] (by kernel_rfl)))
theorem Zn {H : zB} {F : List qj} {w : World} {R : Ending → World → Prop} {b : Nat} {f : qj} {A : Option Addr} {l : List Value} (hn : l.length = 6) (hk : l[4]? = some (.pointer A)) (hB : zH f b l 85) (hA : A = none ∨ A = some ⟨b, 4, none⟩) (hS : St w H [f] F)
    (hret : ∀ (A' : Option Addr) (f' : qj) (w : World), (A' = none ∨ A' = some ⟨b, 4, none⟩) → zH f' b (l.set 4 (.pointer A')) 85 → St w H [f'] F → R (.returned (.tuple ⟨[]⟩)) w) : Calls Tryd.prog 69 ⟨[qp b 4]⟩ w R := by
 rcases hA with rfl | rfl
 ·refine enter Tryd.func69 rfl Tryd.ntmps69 rfl hS fun a w hS => ?_
  refine qn <| sM hS rfl fun hS => sO hS (xm rfl) rfl fun hS => sO hS (qU rfl Tryd.runUnderlying81 rfl Tryd.sizeOf79 rfl) rfl fun hS => sO hS (zD 0 rfl hB rfl hk Tryd.isAgg79) rfl fun hS => sO hS (vF rfl rfl Tryd.runUnderlying79) rfl fun hS => qs <| jn hS rfl ?_
  refine zI <| sM hS rfl fun hS => sM hS rfl fun hS => sO hS (YM 0 rfl hB rfl Tryd.underlying79 Tryd.underlying135 (z := 1) (by kernel_rfl) (by rw [hn]; rfl)) rfl fun hS => sO hS (ZZ rfl (fun args w => run_callFunc_extern Tryd.func86 (by kernel_rfl) (by kernel_rfl) (by kernel_rfl) (by kernel_rfl) args w)) rfl fun hS => sO hS (YJ 0 rfl hB rfl Tryd.underlying135 Tryd.underlying79 (z := 2) (by kernel_rfl) (by rw [hn]; kernel_rfl)) rfl fun hS => sO hS (xm rfl) rfl fun hS => sO hS (qU rfl Tryd.runUnderlying81 rfl Tryd.sizeOf79 rfl) rfl fun hS => y3 0 (l.set 4 (.pointer (some ⟨b, 4, none⟩))) hS rfl rfl hB rfl rfl (by rw [hn]; rfl) rfl Tryd.sizeOf79 fun w f' hB' hS => qN ?_
  exact x1 (rs := []) hS rfl rfl (hret _ _ _ (.inr rfl) hB' (hS.st.pick [0] (by kernel_rfl)))
 ·have e : l.set 4 (.pointer (some ⟨b, 4, none⟩)) = l := by
   obtain ⟨h1, h2⟩ := List.getElem?_eq_some_iff.1 hk
   rw [← h2]; exact List.set_getElem_self h1
  refine enter Tryd.func69 rfl Tryd.ntmps69 rfl hS fun a w hS => ?_
  refine qn <| sM hS rfl fun hS => sO hS (xm rfl) rfl fun hS => sO hS (qU rfl Tryd.runUnderlying81 rfl Tryd.sizeOf79 rfl) rfl fun hS => sO hS (zD 0 rfl hB rfl hk Tryd.isAgg79) rfl fun hS => sO hS (vF rfl rfl Tryd.runUnderlying79) rfl fun hS => qs <| yC hS rfl ?_
  refine qn <| sM hS rfl fun hS => sO hS (xm rfl) rfl fun hS => sO hS (qU rfl Tryd.runUnderlying81 rfl Tryd.sizeOf79 rfl) rfl fun hS => sO hS (zD 0 rfl hB rfl hk Tryd.isAgg79) rfl fun hS => sM hS rfl fun hS => sO hS (uS rfl rfl Tryd.underlying79 (z := 2) (by kernel_rfl)) rfl fun hS => qs <| yC hS rfl <| wp_skip ?_
  exact x1 (rs := []) hS rfl rfl (hret _ _ _ (.inr rfl) (e.symm ▸ hB) (hS.st.pick [0] (by kernel_rfl)))
theorem zM {H : zB} {F : List qj} {w : World} {R : Ending → World → Prop} {kr : Bool → Prop} {kp : Value → Prop} (hG : Gl H) (K : Nat) (JO : Int) (JN : Int)
    (hS : St w H [] F) (hm : (zS.m K JO JN).wp kr kp)
    (hret : ∀ (JP : Bool) (w : World), kr JP → St w H [] F → R (.returned (.bool JP)) w) :
    Calls Tryd.prog 65 ⟨[.int .i64 JO, .int .i64 JN]⟩ w R := by
 refine enter Tryd.func65 rfl Tryd.ntmps65 rfl hS fun a w hS => ?_
 have hM := hm; clear hm
 rw [zS.m] at hM
 refine qn <| sA hS rfl fun hS => qs <| qn <| sM hS rfl fun hS => sB hS rfl fun hS => sM hS rfl fun hS => xy 3 true 7 (b := (decide (JO ≥ (0 : Int)))) (r := (decide (JO ≤ JN))) hS rfl rfl rfl rfl rfl rfl rfl (fun hb a w hS K hK => ?_) rfl fun a w hS => ?_
 ·refine qw hS rfl rfl rfl hb (mv rfl) rfl fun a w hS => ?_
  refine qw hS rfl rfl rfl hb (mv rfl) rfl fun a w hS => qw hS rfl rfl rfl hb (x6 rfl rfl rfl) rfl fun a w hS => ?_
  exact qN (hK _ _ (hS.up 3 rfl rfl))
 refine zO (v := Value.bool) (x0 := ((decide (JO ≥ (0 : Int))) && (decide (JO ≤ JN)))) hS (xK rfl) rfl fun JQ a w hz hS => ?_
 have hM := qO hz hM; clear hz
 refine qs <| wp_ret ?_
 exact qT (rs := [4]) hS rfl rfl (hret JQ _ (qC hM) (hS.st.pick [] (by kernel_rfl)))
theorem vd {H : zB} {F : List qj} {w : World} {R : Ending → World → Prop} {kr : Bool → Prop} {kp : Value → Prop} (hG : Gl H) (K : Nat) (JN : qb)
    (hS : St w H [] F) (hm : (qS.m K JN).wp kr kp)
    (hret : ∀ (J0 : Bool) (w : World), kr J0 → St w H [] F → R (.returned (.bool J0)) w) :
    Calls Tryd.prog 66 ⟨[.agg ⟨[.int .i64 JN.Type_, .int .i64 JN.Flags_, .int .i64 JN.Offset_, .int .u64 JN.Vaddr_, .int .u64 JN.Paddr_, .int .i64 JN.Filesz_, .int .u64 JN.Memsz_, .int .u64 JN.Align_]⟩]⟩ w R := by
 refine enter Tryd.func66 rfl Tryd.ntmps66 rfl hS fun a w hS => ?_
 have hM := hm; clear hm
 rw [qS.m] at hM
 refine qn <| bx ([.int .i64 JN.Type_, .int .i64 JN.Flags_, .int .i64 JN.Offset_, .int .u64 JN.Vaddr_, .int .u64 JN.Paddr_, .int .i64 JN.Filesz_, .int .u64 JN.Memsz_, .int .u64 JN.Align_]) hS rfl rfl rfl fun w JZ JS JR hS => sA hS rfl fun hS => qs <| qn <| sO hS (qU rfl Tryd.runUnderlying58 rfl Tryd.sizeOf3 rfl) rfl fun hS => sO hS (zD 0 rfl JR rfl rfl Tryd.isAgg3) rfl fun hS => ql hS rfl Tryd.call65 (zM hG K JN.Type_ (4294967295 : Int) (hS.st.part 0 [0] (by kernel_rfl)) (qf hM) (fun J1 w hM  hst => qk hS.ev hst.appF rfl fun hS => ?_))
 replace hS : Ss _ _ _ H [JS] F _ _ := hS
 refine sM hS rfl fun hS => zR (fun a w => ∃ (JW : Bool), Ss 21 [] [(1, qp JZ 0), (10, .bool JW)] H [JS] F a w ∧ (qS.j1 K JN JW).wp kr kp) 4 (fun J5 JT => ?_) ?_
 ·refine um (b := J1) hM (fun JO hM => ?_) (fun JO hM => ?_)
  ·replace hS := hS.re 5 (v := .bool true) rfl (congrArg Value.bool JO)
   replace hS := hS.re 6 (v := .bool true) rfl (congrArg Value.bool JO)
   refine qw hS rfl rfl rfl rfl (qU rfl Tryd.runUnderlying58 rfl Tryd.sizeOf3 rfl) rfl fun a w hS => qw hS rfl rfl rfl rfl (zD 0 rfl JR rfl rfl Tryd.isAgg3) rfl fun a w hS => z5 hS rfl rfl rfl rfl <| ql hS rfl Tryd.call65 (zM hG K JN.Flags_ (4294967295 : Int) (hS.st.part 0 [0] (by kernel_rfl)) (qf hM) (fun J2 w hM  hst => qk hS.ev hst.appF rfl fun hS => ?_))
   replace hS : Ss _ _ _ H [JS] F _ _ := hS
   refine sO hS (pk rfl rfl rfl) rfl fun hS => qN <| qi ?_
   exact JT _ _ ⟨J2, hS.to [0] (by kernel_rfl) ⟨rfl, rfl, trivial⟩, hM⟩
  ·replace hS := hS.re 5 (v := .bool false) rfl (congrArg Value.bool JO)
   replace hS := hS.re 6 (v := .bool false) rfl (congrArg Value.bool JO)
   refine yv 3 hS rfl fun a w hS => sO hS (pk rfl rfl rfl) rfl fun hS => qN <| qi ?_
   exact JT _ _ ⟨false, hS.to [0] (by kernel_rfl) ⟨rfl, rfl, trivial⟩, hM⟩
 ·intro a w hI
  obtain ⟨JW, hS, hM⟩ := hI
  rw [qS.j1] at hM
  refine sM hS rfl fun hS => zR (fun a w => ∃ (JX : Bool), Ss 21 [] [(1, qp JZ 0), (15, .bool JX)] H [JS] F a w ∧ (qS.j2 K JN JX).wp kr kp) 4 (fun J6 JU => ?_) ?_
  ·refine um (b := JW) hM (fun JP hM => ?_) (fun JP hM => ?_)
   ·replace hS := hS.re 10 (v := .bool true) rfl (congrArg Value.bool JP)
    replace hS := hS.re 11 (v := .bool true) rfl (congrArg Value.bool JP)
    refine qw hS rfl rfl rfl rfl (qU rfl Tryd.runUnderlying58 rfl Tryd.sizeOf3 rfl) rfl fun a w hS => qw hS rfl rfl rfl rfl (zD 0 rfl JR rfl rfl Tryd.isAgg3) rfl fun a w hS => z5 hS rfl rfl rfl rfl <| ql hS rfl Tryd.call65 (zM hG K JN.Offset_ (1099511627776 : Int) (hS.st.part 0 [0] (by kernel_rfl)) (qf hM) (fun J3 w hM  hst => qk hS.ev hst.appF rfl fun hS => ?_))
    replace hS : Ss _ _ _ H [JS] F _ _ := hS
    refine sO hS (pk rfl rfl rfl) rfl fun hS => qN <| qi ?_
    exact JU _ _ ⟨J3, hS.to [0] (by kernel_rfl) ⟨rfl, rfl, trivial⟩, hM⟩
   ·replace hS := hS.re 10 (v := .bool false) rfl (congrArg Value.bool JP)
    replace hS := hS.re 11 (v := .bool false) rfl (congrArg Value.bool JP)
    refine yv 3 hS rfl fun a w hS => sO hS (pk rfl rfl rfl) rfl fun hS => qN <| qi ?_
    exact JU _ _ ⟨false, hS.to [0] (by kernel_rfl) ⟨rfl, rfl, trivial⟩, hM⟩
  ·intro a w hI
   obtain ⟨JX, hS, hM⟩ := hI
   rw [qS.j2] at hM
   refine sM hS rfl fun hS => zR (fun a w => ∃ (JY : Bool), Ss 21 [] [(20, .bool JY)] H [] F a w ∧ (qS.j3 K JY).wp kr kp) 4 (fun J7 JV => ?_) ?_
   ·refine um (b := JX) hM (fun JQ hM => ?_) (fun JQ hM => ?_)
    ·replace hS := hS.re 15 (v := .bool true) rfl (congrArg Value.bool JQ)
     replace hS := hS.re 16 (v := .bool true) rfl (congrArg Value.bool JQ)
     refine qw hS rfl rfl rfl rfl (qU rfl Tryd.runUnderlying58 rfl Tryd.sizeOf3 rfl) rfl fun a w hS => qw hS rfl rfl rfl rfl (zD 0 rfl JR rfl rfl Tryd.isAgg3) rfl fun a w hS => z5 hS rfl rfl rfl rfl <| ql hS rfl Tryd.call65 (zM hG K JN.Filesz_ (1099511627776 : Int) (hS.st.part 0 [0] (by kernel_rfl)) (qf hM) (fun J4 w hM  hst => qk hS.ev hst.appF rfl fun hS => ?_))
     replace hS : Ss _ _ _ H [JS] F _ _ := hS
     refine sO hS (pk rfl rfl rfl) rfl fun hS => qN <| qi ?_
     exact JV _ _ ⟨J4, hS.to [] (by kernel_rfl) ⟨rfl, trivial⟩, hM⟩
    ·replace hS := hS.re 15 (v := .bool false) rfl (congrArg Value.bool JQ)
     replace hS := hS.re 16 (v := .bool false) rfl (congrArg Value.bool JQ)
     refine yv 3 hS rfl fun a w hS => sO hS (pk rfl rfl rfl) rfl fun hS => qN <| qi ?_
     exact JV _ _ ⟨false, hS.to [] (by kernel_rfl) ⟨rfl, trivial⟩, hM⟩
   ·intro a w hI
    obtain ⟨JY, hS, hM⟩ := hI
    rw [qS.j3] at hM
    refine sA hS rfl fun hS => qs <| wp_ret ?_
    exact qT (rs := [2]) hS rfl rfl (hret JY _ (qC hM) (hS.st.pick [] (by kernel_rfl)))
theorem yh {H : zB} {F : List qj} {w : World} {R : Ending → World → Prop} {kr : Int → Prop} {kp : Value → Prop} (hG : Gl H) (K : Nat) (JO : List UInt8) (JN : Int)
    (hS : St w H [] F) (hm : (zT.m K JO JN).wp kr kp)
    (hret : ∀ (JP : Int) (w : World), kr JP → St w H [] F → R (.returned (.int .i64 JP)) w) :
    Calls Tryd.prog 106 ⟨[qr JO, .int .u8 JN]⟩ w R := by
 refine enter Tryd.func106 rfl Tryd.ntmps106 rfl hS fun a w hS => ?_
 have hM := hm; clear hm
 rw [zT.m] at hM
 refine qn <| sA hS rfl fun hS => qs <| qn <| sM hS rfl fun hS => sM hS rfl fun hS => sO hS (YW rfl rfl (fun args w => run_callFunc_extern Tryd.func110 (by kernel_rfl) (by kernel_rfl) (by kernel_rfl) (by kernel_rfl) args w)) rfl fun hS => zO (v := Value.int .i64) (x0 := (Lib.indexByte JO (yt JN))) hS (xK rfl) rfl fun JQ a w hz hS => ?_
 have hM := qO hz hM; clear hz
 refine qs <| wp_ret ?_
 exact qT (rs := [4]) hS rfl rfl (hret JQ _ (qC hM) (hS.st.pick [] (by kernel_rfl)))
theorem xo {H : zB} {F : List qj} {w : World} {R : Ending → World → Prop} {kr : Int → Prop} {kp : Value → Prop} (hG : Gl H) (K : Nat) (JN : List UInt8)
    (hS : St w H [] F) (hm : (q7.m K JN).wp kr kp)
    (hret : ∀ (JQ : Int) (w : World), kr JQ → St w H [] F → R (.returned (.int .i64 JQ)) w) :
    Calls Tryd.prog 96 ⟨[qr JN, qr ([0] : List UInt8)]⟩ w R := by
 refine enter Tryd.func96 rfl Tryd.ntmps96 rfl hS fun a w hS => ?_
 have hM := hm; clear hm
 rw [q7.m] at hM
 refine qn <| sA hS rfl fun hS => qs <| qn <| sM hS rfl fun hS => sO hS (qH (yi rfl Tryd.runUnderlying9) (v' := .int .i64 (1 : Int)) rfl) rfl fun hS => sA hS rfl fun hS => qs <| wp_seq <| yp <| qn <| sM hS rfl fun hS => sO hS (qH (x6 rfl rfl rfl) (v' := .bool false) rfl) rfl fun hS => sM hS rfl fun hS => qw hS rfl rfl rfl rfl (mv rfl) rfl fun a w hS => qw hS rfl rfl rfl rfl (mv rfl) rfl fun a w hS => qw hS rfl rfl rfl rfl (vW rfl rfl rfl) rfl fun a w hS => sO hS (pk rfl rfl rfl) rfl fun hS => zO (v := Value.bool) (x0 := (([0] : List UInt8) == JN)) hS (xK rfl) rfl fun JS a w hz hS => ?_
 have hM := qO hz hM; clear hz
 refine qs <| qI hS rfl hM (fun JO hM => ?_) (fun JO hM => ?_)
 ·refine wp_seq ?_
  refine zI <| sA hS rfl fun hS => qs <| wp_ret <| zK (qx ?_)
  exact qT (rs := [4]) hS rfl rfl (hret (0 : Int) _ (qC hM) (hS.st.pick [] (by kernel_rfl)))
 ·refine wp_seq ?_
  refine zI <| sM hS rfl fun hS => sO hS (qH (x6 rfl rfl rfl) (v' := .bool true) rfl) rfl fun hS => sA hS rfl fun hS => qs <| jn hS rfl <| qn <| sM hS rfl fun hS => sM hS rfl fun hS => ?_
  obtain ⟨JP, hM⟩ := qL hM
  refine sO hS (qH (Q9 rfl rfl Tryd.runUnderlying9 JP) (v' := .int .u8 (0 : Int)) rfl) rfl fun hS => ql hS rfl Tryd.call106 (yh hG K JN (0 : Int) (hS.st.part 0 [] (by kernel_rfl)) (qf hM) (fun JR w hM  hst => qk hS.ev hst.appF rfl fun hS => ?_))
  replace hS : Ss _ _ _ H [] F _ _ := hS
  refine sA hS rfl fun hS => qs <| wp_ret <| zK (qx ?_)
  exact qT (rs := [4]) hS rfl rfl (hret JR _ (qC hM) (hS.st.pick [] (by kernel_rfl)))
theorem jw {H : zB} {F : List qj} {w : World} {R : Ending → World → Prop} {kr : Int → Prop} {kp : Value → Prop} (hG : Gl H) (K : Nat) (JN : List UInt8)
    (hS : St w H [] F) (hm : (x9.m K JN).wp kr kp)
    (hret : ∀ (JO : Int) (w : World), kr JO → St w H [] F → R (.returned (.int .i64 JO)) w) :
    Calls Tryd.prog 97 ⟨[qr JN, qr ([0] : List UInt8)]⟩ w R := by
 refine enter Tryd.func97 rfl Tryd.ntmps97 rfl hS fun a w hS => ?_
 have hM := hm; clear hm
 rw [x9.m] at hM
 refine qn <| sA hS rfl fun hS => qs <| qn <| sM hS rfl fun hS => sM hS rfl fun hS => ql hS rfl Tryd.call96 (xo hG K JN (hS.st.part 0 [] (by kernel_rfl)) (qf hM) (fun JP w hM  hst => qk hS.ev hst.appF rfl fun hS => ?_))
 replace hS : Ss _ _ _ H [] F _ _ := hS
 refine sA hS rfl fun hS => qs <| wp_ret ?_
 exact qT (rs := [4]) hS rfl rfl (hret JP _ (qC hM) (hS.st.pick [] (by kernel_rfl)))
theorem ja {H : zB} {F : List qj} {w : World} {R : Ending → World → Prop} {kr : Bool → Prop} {kp : Value → Prop} (hG : Gl H) (K : Nat) (JN : List UInt8)
    (hS : St w H [] F) (hm : (xH.m K JN).wp kr kp)
    (hret : ∀ (JO : Bool) (w : World), kr JO → St w H [] F → R (.returned (.bool JO)) w) :
    Calls Tryd.prog 84 ⟨[qr JN, qr ([0] : List UInt8)]⟩ w R := by
 refine enter Tryd.func84 rfl Tryd.ntmps84 rfl hS fun a w hS => ?_
 have hM := hm; clear hm
 rw [xH.m] at hM
 refine qn <| sA hS rfl fun hS => qs <| qn <| sM hS rfl fun hS => sM hS rfl fun hS => ql hS rfl Tryd.call97 (jw hG K JN (hS.st.part 0 [] (by kernel_rfl)) (qf hM) (fun JQ w hM  hst => qk hS.ev hst.appF rfl fun hS => ?_))
 replace hS : Ss _ _ _ H [] F _ _ := hS
 refine sB hS rfl fun hS => zO (v := Value.bool) (x0 := (decide (JQ ≥ (0 : Int)))) hS (xK rfl) rfl fun JP a w hz hS => ?_
 have hM := qO hz hM; clear hz
 refine qs <| wp_ret ?_
 exact qT (rs := [4]) hS rfl rfl (hret JP _ (qC hM) (hS.st.pick [] (by kernel_rfl)))
theorem vc {H : zB} {F : List qj} {w : World} {R : Ending → World → Prop} {kr : Bool → Prop} {kp : Value → Prop} (hG : Gl H) (K : Nat) (JN : qa)
    (hS : St w H [] F) (hm : (qG.m K JN).wp kr kp)
    (hret : ∀ (J3 : Bool) (w : World), kr J3 → St w H [] F → R (.returned (.bool J3)) w) :
    Calls Tryd.prog 67 ⟨[.agg ⟨[qr JN.Name_, .int .i64 JN.Type_, .int .u64 JN.Flags_, .int .u64 JN.Addr_, qr JN.Data_, .int .i64 JN.Size_, .int .i64 JN.Link_, .int .i64 JN.Info_, .int .u64 JN.Align_, .int .u64 JN.Each_]⟩]⟩ w R := by
 refine enter Tryd.func67 rfl Tryd.ntmps67 rfl hS fun a w hS => ?_
 have hM := hm; clear hm
 rw [qG.m] at hM
 refine qn <| bx ([qr JN.Name_, .int .i64 JN.Type_, .int .u64 JN.Flags_, .int .u64 JN.Addr_, qr JN.Data_, .int .i64 JN.Size_, .int .i64 JN.Link_, .int .i64 JN.Info_, .int .u64 JN.Align_, .int .u64 JN.Each_]) hS rfl rfl rfl fun w J4 JV JP hS => sA hS rfl fun hS => qs <| qn <| sO hS (qU rfl Tryd.runUnderlying43 rfl Tryd.sizeOf3 rfl) rfl fun hS => sO hS (zD 0 rfl JP rfl rfl Tryd.isAgg3) rfl fun hS => ql hS rfl Tryd.call65 (zM hG K JN.Type_ (4294967295 : Int) (hS.st.part 0 [0] (by kernel_rfl)) (qf hM) (fun J7 w hM  hst => qk hS.ev hst.appF rfl fun hS => ?_))
 replace hS : Ss _ _ _ H [JV] F _ _ := hS
 refine sM hS rfl fun hS => zR (fun a w => ∃ (JW : Bool), Ss 54 [] [(1, qp J4 0), (12, .bool JW)] H [JV] F a w ∧ (qG.j1 K JN JW).wp kr kp) 4 (fun Vc JY => ?_) ?_
 ·refine um (b := J7) hM (fun JR hM => ?_) (fun JR hM => ?_)
  ·replace hS := hS.re 7 (v := .bool true) rfl (congrArg Value.bool JR)
   replace hS := hS.re 8 (v := .bool true) rfl (congrArg Value.bool JR)
   refine qw hS rfl rfl rfl rfl (qU rfl Tryd.runUnderlying43 rfl Tryd.sizeOf3 rfl) rfl fun a w hS => qw hS rfl rfl rfl rfl (zD 0 rfl JP rfl rfl Tryd.isAgg3) rfl fun a w hS => z5 hS rfl rfl rfl rfl <| ql hS rfl Tryd.call65 (zM hG K JN.Link_ (4294967295 : Int) (hS.st.part 0 [0] (by kernel_rfl)) (qf hM) (fun J8 w hM  hst => qk hS.ev hst.appF rfl fun hS => ?_))
   replace hS : Ss _ _ _ H [JV] F _ _ := hS
   refine sO hS (pk rfl rfl rfl) rfl fun hS => qN <| qi ?_
   exact JY _ _ ⟨J8, hS.to [0] (by kernel_rfl) ⟨rfl, rfl, trivial⟩, hM⟩
  ·replace hS := hS.re 7 (v := .bool false) rfl (congrArg Value.bool JR)
   replace hS := hS.re 8 (v := .bool false) rfl (congrArg Value.bool JR)
   refine yv 3 hS rfl fun a w hS => sO hS (pk rfl rfl rfl) rfl fun hS => qN <| qi ?_
   exact JY _ _ ⟨false, hS.to [0] (by kernel_rfl) ⟨rfl, rfl, trivial⟩, hM⟩
 ·intro a w hI
  obtain ⟨JW, hS, hM⟩ := hI
  rw [qG.j1] at hM
  refine sM hS rfl fun hS => zR (fun a w => ∃ (JX : Bool), Ss 54 [] [(1, qp J4 0), (17, .bool JX)] H [JV] F a w ∧ (qG.j2 K JN JX).wp kr kp) 4 (fun Vd JZ => ?_) ?_
  ·refine um (b := JW) hM (fun JS hM => ?_) (fun JS hM => ?_)
   ·replace hS := hS.re 12 (v := .bool true) rfl (congrArg Value.bool JS)
    replace hS := hS.re 13 (v := .bool true) rfl (congrArg Value.bool JS)
    refine qw hS rfl rfl rfl rfl (qU rfl Tryd.runUnderlying43 rfl Tryd.sizeOf3 rfl) rfl fun a w hS => qw hS rfl rfl rfl rfl (zD 0 rfl JP rfl rfl Tryd.isAgg3) rfl fun a w hS => z5 hS rfl rfl rfl rfl <| ql hS rfl Tryd.call65 (zM hG K JN.Info_ (4294967295 : Int) (hS.st.part 0 [0] (by kernel_rfl)) (qf hM) (fun J9 w hM  hst => qk hS.ev hst.appF rfl fun hS => ?_))
    replace hS : Ss _ _ _ H [JV] F _ _ := hS
    refine sO hS (pk rfl rfl rfl) rfl fun hS => qN <| qi ?_
    exact JZ _ _ ⟨J9, hS.to [0] (by kernel_rfl) ⟨rfl, rfl, trivial⟩, hM⟩
   ·replace hS := hS.re 12 (v := .bool false) rfl (congrArg Value.bool JS)
    replace hS := hS.re 13 (v := .bool false) rfl (congrArg Value.bool JS)
    refine yv 3 hS rfl fun a w hS => sO hS (pk rfl rfl rfl) rfl fun hS => qN <| qi ?_
    exact JZ _ _ ⟨false, hS.to [0] (by kernel_rfl) ⟨rfl, rfl, trivial⟩, hM⟩
  ·intro a w hI
   obtain ⟨JX, hS, hM⟩ := hI
   rw [qG.j2] at hM
   refine sM hS rfl fun hS => zR (fun a w => ∃ (JO : Bool), Ss 54 [] [(1, qp J4 0), (22, .bool JO)] H [JV] F a w ∧ (qG.j3 K JN JO).wp kr kp) 4 (fun Ve J0 => ?_) ?_
   ·refine um (b := JX) hM (fun JT hM => ?_) (fun JT hM => ?_)
    ·replace hS := hS.re 17 (v := .bool true) rfl (congrArg Value.bool JT)
     replace hS := hS.re 18 (v := .bool true) rfl (congrArg Value.bool JT)
     refine qw hS rfl rfl rfl rfl (qU rfl Tryd.runUnderlying43 rfl Tryd.sizeOf3 rfl) rfl fun a w hS => qw hS rfl rfl rfl rfl (zD 0 rfl JP rfl rfl Tryd.isAgg3) rfl fun a w hS => z5 hS rfl rfl rfl rfl <| ql hS rfl Tryd.call65 (zM hG K JN.Size_ (1099511627776 : Int) (hS.st.part 0 [0] (by kernel_rfl)) (qf hM) (fun Va w hM  hst => qk hS.ev hst.appF rfl fun hS => ?_))
     replace hS : Ss _ _ _ H [JV] F _ _ := hS
     refine sO hS (pk rfl rfl rfl) rfl fun hS => qN <| qi ?_
     exact J0 _ _ ⟨Va, hS.to [0] (by kernel_rfl) ⟨rfl, rfl, trivial⟩, hM⟩
    ·replace hS := hS.re 17 (v := .bool false) rfl (congrArg Value.bool JT)
     replace hS := hS.re 18 (v := .bool false) rfl (congrArg Value.bool JT)
     refine yv 3 hS rfl fun a w hS => sO hS (pk rfl rfl rfl) rfl fun hS => qN <| qi ?_
     exact J0 _ _ ⟨false, hS.to [0] (by kernel_rfl) ⟨rfl, rfl, trivial⟩, hM⟩
   ·intro a w hI
    obtain ⟨JO, hS, hM⟩ := hI
    rw [qG.j3] at hM
    refine sA hS rfl fun hS => qs <| qn <| sO hS (qU rfl Tryd.runUnderlying43 rfl Tryd.sizeOf9 rfl) rfl fun hS => sO hS (zD 0 rfl JP rfl rfl Tryd.isAgg9) rfl fun hS => sO hS (yi rfl Tryd.runUnderlying9) rfl fun hS => sB hS rfl fun hS => sM hS rfl fun hS => zR (fun a w => ∃ (JQ : Bool), Ss 54 [] [(1, qp J4 0), (3, .bool JO), (32, .bool JQ)] H [JV] F a w ∧ (qG.j4 K JN JO JQ).wp kr kp) 5 (fun Vf J1 => ?_) ?_
    ·refine um (b := (decide ((JN.Name_.length : Int) ≤ (200 : Int)))) hM (fun JU hM => ?_) (fun JU hM => ?_)
     ·replace hS := hS.re 26 (v := .bool true) rfl (congrArg Value.bool JU)
      replace hS := hS.re 27 (v := .bool true) rfl (congrArg Value.bool JU)
      refine qw hS rfl rfl rfl rfl (qU rfl Tryd.runUnderlying43 rfl Tryd.sizeOf9 rfl) rfl fun a w hS => qw hS rfl rfl rfl rfl (zD 0 rfl JP rfl rfl Tryd.isAgg9) rfl fun a w hS => z5 hS rfl rfl rfl rfl <| ql hS rfl Tryd.call84 (ja hG K JN.Name_ (hS.st.part 0 [0] (by kernel_rfl)) (qf hM) (fun Vb w hM  hst => qk hS.ev hst.appF rfl fun hS => ?_))
      replace hS : Ss _ _ _ H [JV] F _ _ := hS
      refine qw hS rfl rfl rfl rfl (un rfl rfl) rfl fun a w hS => sO hS (pk rfl rfl rfl) rfl fun hS => qN <| qi ?_
      exact J1 _ _ ⟨(!Vb), hS.to [0] (by kernel_rfl) ⟨rfl, rfl, rfl, trivial⟩, hM⟩
     ·replace hS := hS.re 26 (v := .bool false) rfl (congrArg Value.bool JU)
      replace hS := hS.re 27 (v := .bool false) rfl (congrArg Value.bool JU)
      refine yv 4 hS rfl fun a w hS => sO hS (pk rfl rfl rfl) rfl fun hS => qN <| qi ?_
      exact J1 _ _ ⟨false, hS.to [0] (by kernel_rfl) ⟨rfl, rfl, rfl, trivial⟩, hM⟩
    ·intro a w hI
     obtain ⟨JQ, hS, hM⟩ := hI
     rw [qG.j4] at hM
     refine sA hS rfl fun hS => qs <| wp_seq <| qn <| sO hS (qU rfl Tryd.runUnderlying43 rfl Tryd.sizeOf3 rfl) rfl fun hS => sO hS (zD 0 rfl JP rfl rfl Tryd.isAgg3) rfl fun hS => sB hS rfl fun hS => qs <| qI hS rfl hM (fun J2 hM => ?_) (fun J2 hM => ?_)
     ·refine wp_seq ?_
      refine zI <| sM hS rfl fun hS => sM hS rfl fun hS => xy 1 true 37 (b := JO) (r := JQ) hS rfl rfl rfl rfl rfl rfl rfl (fun hb a w hS K hK => ?_) rfl fun a w hS => ?_
      ·refine qw hS rfl rfl rfl hb (mv rfl) rfl fun a w hS => ?_
       exact qN (hK _ _ (hS.up 1 rfl rfl))
      refine sM hS rfl fun hS => xy 3 true 40 (b := (JO && JQ)) (r := (JN.Data_ == ([] : List UInt8))) hS rfl rfl rfl rfl rfl rfl rfl (fun hb a w hS K hK => ?_) rfl fun a w hS => ?_
      ·refine qw hS rfl rfl rfl hb (qU rfl Tryd.runUnderlying43 rfl Tryd.sizeOf9 rfl) rfl fun a w hS => ?_
       refine qw hS rfl rfl rfl hb (zD 0 rfl JP rfl rfl Tryd.isAgg9) rfl fun a w hS => qw hS rfl rfl rfl hb (vW rfl rfl rfl) rfl fun a w hS => ?_
       exact qN (hK _ _ (hS.up 3 rfl rfl))
      refine zO (v := Value.bool) (x0 := ((JO && JQ) && (JN.Data_ == ([] : List UInt8)))) hS (xK rfl) rfl fun J5 a w hz hS => ?_
      have hM := qO hz hM; clear hz
      refine qs <| wp_ret <| qx ?_
      exact qT (rs := [2]) hS rfl rfl (hret J5 _ (qC hM) (hS.st.pick [] (by kernel_rfl)))
     ·refine wp_skip ?_
      refine qi <| qn <| sM hS rfl fun hS => sM hS rfl fun hS => xy 1 true 46 (b := JO) (r := JQ) hS rfl rfl rfl rfl rfl rfl rfl (fun hb a w hS K hK => ?_) rfl fun a w hS => ?_
      ·refine qw hS rfl rfl rfl hb (mv rfl) rfl fun a w hS => ?_
       exact qN (hK _ _ (hS.up 1 rfl rfl))
      refine sM hS rfl fun hS => xy 3 true 49 (b := (JO && JQ)) (r := (JN.Size_ == (0 : Int))) hS rfl rfl rfl rfl rfl rfl rfl (fun hb a w hS K hK => ?_) rfl fun a w hS => ?_
      ·refine qw hS rfl rfl rfl hb (qU rfl Tryd.runUnderlying43 rfl Tryd.sizeOf3 rfl) rfl fun a w hS => ?_
       refine qw hS rfl rfl rfl hb (zD 0 rfl JP rfl rfl Tryd.isAgg3) rfl fun a w hS => qw hS rfl rfl rfl hb (x6 rfl rfl rfl) rfl fun a w hS => ?_
       exact qN (hK _ _ (hS.up 3 rfl rfl))
      refine zO (v := Value.bool) (x0 := ((JO && JQ) && (JN.Size_ == (0 : Int)))) hS (xK rfl) rfl fun J6 a w hz hS => ?_
      have hM := qO hz hM; clear hz
      refine qs <| wp_ret ?_
      exact qT (rs := [2]) hS rfl rfl (hret J6 _ (qC hM) (hS.st.pick [] (by kernel_rfl)))
theorem Qw {H : zB} {F : List qj} {w : World} {R : Ending → World → Prop} {kr : Bool → Prop} {kp : Value → Prop} (hG : Gl H) (K : Nat) (JN : qJ) (J4 : Option Addr) (J7 : Nat) (J5 : Option Addr) (J8 : Nat) (J0 : yT H [] F qb.cells J4 JN.Segments_) (Vp : JN.Segments_.length ≤ J7) (J1 : yT H [] F qa.cells J5 JN.Sections_) (Vq : JN.Sections_.length ≤ J8)
    (hS : St w H [] F) (hm : (zm.m K JN).wp kr kp)
    (hret : ∀ (J3 : Bool) (w : World), kr J3 → St w H [] F → R (.returned (.bool J3)) w) :
    Calls Tryd.prog 33 ⟨[.agg ⟨[.int .i64 JN.Type_, .int .i64 JN.Machine_, .int .u64 JN.Entry_, .int .i64 JN.Flags_, .slice J4 JN.Segments_.length J7, .slice J5 JN.Sections_.length J8]⟩]⟩ w R := by
 refine enter Tryd.func33 rfl Tryd.ntmps33 rfl hS fun a w hS => ?_
 have hM := hm; clear hm
 rw [zm.m] at hM
 refine qn <| bx ([.int .i64 JN.Type_, .int .i64 JN.Machine_, .int .u64 JN.Entry_, .int .i64 JN.Flags_, .slice J4 JN.Segments_.length J7, .slice J5 JN.Sections_.length J8]) hS rfl rfl rfl fun w J6 JT JQ hS => sA hS rfl fun hS => qs <| wp_seq <| qn <| sO hS (qU rfl Tryd.runUnderlying27 rfl Tryd.sizeOf3 rfl) rfl fun hS => sO hS (zD 0 rfl JQ rfl rfl Tryd.isAgg3) rfl fun hS => ql hS rfl Tryd.call65 (zM hG K JN.Type_ (65535 : Int) (hS.st.part 0 [0] (by kernel_rfl)) (qf hM) (fun Vs w hM  hst => qk hS.ev hst.appF rfl fun hS => ?_))
 replace hS : Ss _ _ _ H [JT] F _ _ := hS
 refine sO hS (un rfl rfl) rfl fun hS => sM hS rfl fun hS => zR (fun a w => ∃ (J9 : Bool), Ss 57 [] [(1, qp J6 0), (16, .bool J9)] H [JT] F a w ∧ (zm.j1 K JN J9).wp kr kp) 5 (fun Vv JV => ?_) ?_
 ·refine um (b := (!Vs)) hM (fun JR hM => ?_) (fun JR hM => ?_)
  ·replace hS := hS.re 10 (v := .bool true) rfl (congrArg Value.bool JR)
   replace hS := hS.re 11 (v := .bool true) rfl (congrArg Value.bool JR)
   refine yv 4 hS rfl fun a w hS => sO hS (pk rfl rfl rfl) rfl fun hS => qN <| qi ?_
   exact JV _ _ ⟨true, hS.to [0] (by kernel_rfl) ⟨rfl, rfl, trivial⟩, hM⟩
  ·replace hS := hS.re 10 (v := .bool false) rfl (congrArg Value.bool JR)
   replace hS := hS.re 11 (v := .bool false) rfl (congrArg Value.bool JR)
   refine qw hS rfl rfl rfl rfl (qU rfl Tryd.runUnderlying27 rfl Tryd.sizeOf3 rfl) rfl fun a w hS => qw hS rfl rfl rfl rfl (zD 0 rfl JQ rfl rfl Tryd.isAgg3) rfl fun a w hS => z5 hS rfl rfl rfl rfl <| ql hS rfl Tryd.call65 (zM hG K JN.Machine_ (65535 : Int) (hS.st.part 0 [0] (by kernel_rfl)) (qf hM) (fun Vt w hM  hst => qk hS.ev hst.appF rfl fun hS => ?_))
   replace hS : Ss _ _ _ H [JT] F _ _ := hS
   refine qw hS rfl rfl rfl rfl (un rfl rfl) rfl fun a w hS => sO hS (pk rfl rfl rfl) rfl fun hS => qN <| qi ?_
   exact JV _ _ ⟨(!Vt), hS.to [0] (by kernel_rfl) ⟨rfl, rfl, trivial⟩, hM⟩
 ·intro a w hI
  obtain ⟨J9, hS, hM⟩ := hI
  rw [zm.j1] at hM
  refine sM hS rfl fun hS => zR (fun a w => ∃ (J2 : Bool), Ss 57 [] [(1, qp J6 0), (22, .bool J2)] H [JT] F a w ∧ (zm.j2 K JN J2).wp kr kp) 5 (fun Vw JW => ?_) ?_
  ·refine um (b := J9) hM (fun JS hM => ?_) (fun JS hM => ?_)
   ·replace hS := hS.re 16 (v := .bool true) rfl (congrArg Value.bool JS)
    replace hS := hS.re 17 (v := .bool true) rfl (congrArg Value.bool JS)
    refine yv 4 hS rfl fun a w hS => sO hS (pk rfl rfl rfl) rfl fun hS => qN <| qi ?_
    exact JW _ _ ⟨true, hS.to [0] (by kernel_rfl) ⟨rfl, rfl, trivial⟩, hM⟩
   ·replace hS := hS.re 16 (v := .bool false) rfl (congrArg Value.bool JS)
    replace hS := hS.re 17 (v := .bool false) rfl (congrArg Value.bool JS)
    refine qw hS rfl rfl rfl rfl (qU rfl Tryd.runUnderlying27 rfl Tryd.sizeOf3 rfl) rfl fun a w hS => qw hS rfl rfl rfl rfl (zD 0 rfl JQ rfl rfl Tryd.isAgg3) rfl fun a w hS => z5 hS rfl rfl rfl rfl <| ql hS rfl Tryd.call65 (zM hG K JN.Flags_ (4294967295 : Int) (hS.st.part 0 [0] (by kernel_rfl)) (qf hM) (fun Vu w hM  hst => qk hS.ev hst.appF rfl fun hS => ?_))
    replace hS : Ss _ _ _ H [JT] F _ _ := hS
    refine qw hS rfl rfl rfl rfl (un rfl rfl) rfl fun a w hS => sO hS (pk rfl rfl rfl) rfl fun hS => qN <| qi ?_
    exact JW _ _ ⟨(!Vu), hS.to [0] (by kernel_rfl) ⟨rfl, rfl, trivial⟩, hM⟩
  ·intro a w hI
   obtain ⟨J2, hS, hM⟩ := hI
   rw [zm.j2] at hM
   refine sM hS rfl fun hS => xy 4 false 23 (b := J2) (r := (decide ((JN.Segments_.length : Int) > (1000 : Int)))) hS rfl rfl rfl rfl rfl rfl rfl (fun hb a w hS K hK => ?_) rfl fun a w hS => ?_
   ·refine qw hS rfl rfl rfl hb (qU rfl Tryd.runUnderlying27 rfl Tryd.sizeOf24 rfl) rfl fun a w hS => ?_
    refine qw hS rfl rfl rfl hb (zD 0 rfl JQ rfl rfl Tryd.isAgg24) rfl fun a w hS => qw hS rfl rfl rfl hb (xz rfl Tryd.runUnderlying24) rfl fun a w hS => qw hS rfl rfl rfl hb (x6 rfl rfl rfl) rfl fun a w hS => ?_
    exact qN (hK _ _ (hS.up 4 rfl rfl))
   refine sM hS rfl fun hS => xy 4 false 29 (b := (J2 || (decide ((JN.Segments_.length : Int) > (1000 : Int))))) (r := (decide ((JN.Sections_.length : Int) > (1000 : Int)))) hS rfl rfl rfl rfl rfl rfl rfl (fun hb a w hS K hK => ?_) rfl fun a w hS => ?_
   ·refine qw hS rfl rfl rfl hb (qU rfl Tryd.runUnderlying27 rfl Tryd.sizeOf25 rfl) rfl fun a w hS => ?_
    refine qw hS rfl rfl rfl hb (zD 0 rfl JQ rfl rfl Tryd.isAgg25) rfl fun a w hS => qw hS rfl rfl rfl hb (xz rfl Tryd.runUnderlying25) rfl fun a w hS => qw hS rfl rfl rfl hb (x6 rfl rfl rfl) rfl fun a w hS => ?_
    exact qN (hK _ _ (hS.up 4 rfl rfl))
   refine qs <| qI hS rfl hM (fun Vg hM => ?_) (fun Vg hM => ?_)
   ·refine wp_seq ?_
    refine zI <| sA hS rfl fun hS => qs <| wp_ret <| qx ?_
    exact qT (rs := [2]) hS rfl rfl (hret false _ (qC hM) (hS.st.pick [] (by kernel_rfl)))
   ·refine wp_skip ?_
    refine qi <| zq (fun a w => Ss 57 [] [(1, qp J6 0)] H [JT] F a w ∧ (zm.j4 K JN).wp kr kp) (fun Vy Vf => ?_) ?_
    ·refine wp_seq ?_
     refine zI <| sO hS (qU rfl Tryd.runUnderlying27 rfl Tryd.sizeOf24 rfl) rfl fun hS => sO hS (zD 0 rfl JQ rfl rfl Tryd.isAgg24) rfl fun hS => sO hS (xz rfl Tryd.runUnderlying24) rfl fun hS => sM hS rfl fun hS => qs <| yp <| zz (fun Vk a w => ∃ (JP : Int), Ss 57 [] [(1, qp J6 0), (36, .slice J4 JN.Segments_.length J7), (37, .int .i64 (JN.Segments_.length : Int)), (38, .int .i64 JP)] H [JT] F a w ∧ (zm.l3 K JN Vk JP).wp kr kp) K ?_ ?_ ?_
     ·exact ⟨(0 : Int), hS.to [0] (by kernel_rfl) ⟨rfl, rfl, rfl, rfl, trivial⟩, hM⟩
     ·intro a w hI; obtain ⟨_, _, hM⟩ := hI; exact zA hM
     ·intro Vk a w hI Vx Ve
      obtain ⟨JP, hS, hM⟩ := hI
      rw [zm.l3] at hM
      refine qn <| sB hS rfl fun hS => qs <| wp_seq <| qI hS rfl hM (fun Vh hM => ?_) (fun Vh hM => ?_)
      ·refine wp_skip ?_
       refine qi <| wp_seq <| yp <| wp_seq <| zI ?_
       obtain ⟨JY, hM⟩ := qL hM
       refine sO hS (vS rfl rfl Tryd.runUnderlying24 Tryd.sizeOf58 J0.wk (fun _ => rfl) rfl JY) rfl fun hS => sO hS (uQ rfl J0.wk (fun _ => rfl) JY Tryd.isAgg58 Tryd.sizeOf58 rfl) rfl fun hS => jY ([.int .i64 (0 : Int), .int .i64 (0 : Int), .int .i64 (0 : Int), .int .u64 (0 : Int), .int .u64 (0 : Int), .int .i64 (0 : Int), .int .u64 (0 : Int), .int .u64 (0 : Int)]) hS Tryd.zeroValue58 rfl rfl fun w Vz VB Va hS => jr 0 ([.int .i64 ((rd JN.Segments_ JP).Type_), .int .i64 ((rd JN.Segments_ JP).Flags_), .int .i64 ((rd JN.Segments_ JP).Offset_), .int .u64 ((rd JN.Segments_ JP).Vaddr_), .int .u64 ((rd JN.Segments_ JP).Paddr_), .int .i64 ((rd JN.Segments_ JP).Filesz_), .int .u64 ((rd JN.Segments_ JP).Memsz_), .int .u64 ((rd JN.Segments_ JP).Align_)]) ([.int .i64 ((rd JN.Segments_ JP).Type_), .int .i64 ((rd JN.Segments_ JP).Flags_), .int .i64 ((rd JN.Segments_ JP).Offset_), .int .u64 ((rd JN.Segments_ JP).Vaddr_), .int .u64 ((rd JN.Segments_ JP).Paddr_), .int .i64 ((rd JN.Segments_ JP).Filesz_), .int .u64 ((rd JN.Segments_ JP).Memsz_), .int .u64 ((rd JN.Segments_ JP).Align_)]) hS rfl rfl Va rfl rfl Tryd.sizeOf58 (by simp [Value.oneCell']) (Nat.le_of_ble_eq_true rfl) rfl fun w Vn Vb hS => qs <| qn <| sO hS (xR 0 rfl Vb rfl ([.int .i64 ((rd JN.Segments_ JP).Type_), .int .i64 ((rd JN.Segments_ JP).Flags_), .int .i64 ((rd JN.Segments_ JP).Offset_), .int .u64 ((rd JN.Segments_ JP).Vaddr_), .int .u64 ((rd JN.Segments_ JP).Paddr_), .int .i64 ((rd JN.Segments_ JP).Filesz_), .int .u64 ((rd JN.Segments_ JP).Memsz_), .int .u64 ((rd JN.Segments_ JP).Align_)]) rfl rfl Tryd.isAgg58 Tryd.sizeOf58) rfl fun hS => ql hS rfl Tryd.call66 (vd hG K (qb.mk ((rd JN.Segments_ JP).Type_) ((rd JN.Segments_ JP).Flags_) ((rd JN.Segments_ JP).Offset_) ((rd JN.Segments_ JP).Vaddr_) ((rd JN.Segments_ JP).Paddr_) ((rd JN.Segments_ JP).Filesz_) ((rd JN.Segments_ JP).Memsz_) ((rd JN.Segments_ JP).Align_)) (hS.st.part 0 [0, 1] (by kernel_rfl)) (qf hM) (fun VD w hM  hst => qk hS.ev hst.appF rfl fun hS => ?_))
       replace hS : Ss _ _ _ H [Vn, JT] F _ _ := hS
       refine sO hS (un rfl rfl) rfl fun hS => qs <| qI hS rfl hM (fun Vi hM => ?_) (fun Vi hM => ?_)
       ·refine wp_seq ?_
        refine zI <| sA hS rfl fun hS => qs <| wp_ret <| zK (qx (qx (zK (qx ?_))))
        exact qT (rs := [2]) hS rfl rfl (hret false _ (qC hM) (hS.st.pick [] (by kernel_rfl)))
       ·refine wp_skip ?_
        refine xr (qi ?_)
        refine zI <| sB hS rfl fun hS => sM hS rfl fun hS => qN <| qi ?_
        exact Ve _ _ ⟨(qM (JP + (1 : Int))), hS.to [1] (by kernel_rfl) ⟨rfl, rfl, rfl, rfl, trivial⟩, hM⟩
      ·refine wp_exit ?_
       refine qK (qK (zi (qi ?_)))
       exact Vf _ _ ⟨hS.to [0] (by kernel_rfl) ⟨rfl, trivial⟩, hM⟩
    ·intro a w hI
     obtain ⟨hS, hM⟩ := hI
     rw [zm.j4] at hM
     refine wp_seq <| qn <| sO hS (qU rfl Tryd.runUnderlying27 rfl Tryd.sizeOf25 rfl) rfl fun hS => sO hS (zD 0 rfl JQ rfl rfl Tryd.isAgg25) rfl fun hS => sO hS (xz rfl Tryd.runUnderlying25) rfl fun hS => sM hS rfl fun hS => qs <| yp <| zz (fun Vl a w => ∃ (JO : Int), Ss 57 [] [(47, .slice J5 JN.Sections_.length J8), (48, .int .i64 (JN.Sections_.length : Int)), (49, .int .i64 JO)] H [] F a w ∧ (zm.l5 K JN Vl JO).wp kr kp) K ?_ ?_ ?_
     ·exact ⟨(0 : Int), hS.to [] (by kernel_rfl) ⟨rfl, rfl, rfl, trivial⟩, hM⟩
     ·intro a w hI; obtain ⟨_, _, hM⟩ := hI; exact zA hM
     ·intro Vl a w hI Vm JU
      obtain ⟨JO, hS, hM⟩ := hI
      rw [zm.l5] at hM
      refine qn <| sB hS rfl fun hS => qs <| wp_seq <| qI hS rfl hM (fun Vj hM => ?_) (fun Vj hM => ?_)
      ·refine wp_skip ?_
       refine qi <| wp_seq <| yp <| wp_seq <| zI ?_
       obtain ⟨JZ, hM⟩ := qL hM
       refine sO hS (vS rfl rfl Tryd.runUnderlying25 Tryd.sizeOf43 J1.wk (fun _ => rfl) rfl JZ) rfl fun hS => sO hS (uQ rfl J1.wk (fun _ => rfl) JZ Tryd.isAgg43 Tryd.sizeOf43 rfl) rfl fun hS => jY ([qr ([] : List UInt8), .int .i64 (0 : Int), .int .u64 (0 : Int), .int .u64 (0 : Int), qr ([] : List UInt8), .int .i64 (0 : Int), .int .i64 (0 : Int), .int .i64 (0 : Int), .int .u64 (0 : Int), .int .u64 (0 : Int)]) hS Tryd.zeroValue43 rfl rfl fun w VA VC Vc hS => jr 0 ([qr ((rd JN.Sections_ JO).Name_), .int .i64 ((rd JN.Sections_ JO).Type_), .int .u64 ((rd JN.Sections_ JO).Flags_), .int .u64 ((rd JN.Sections_ JO).Addr_), qr ((rd JN.Sections_ JO).Data_), .int .i64 ((rd JN.Sections_ JO).Size_), .int .i64 ((rd JN.Sections_ JO).Link_), .int .i64 ((rd JN.Sections_ JO).Info_), .int .u64 ((rd JN.Sections_ JO).Align_), .int .u64 ((rd JN.Sections_ JO).Each_)]) ([qr ((rd JN.Sections_ JO).Name_), .int .i64 ((rd JN.Sections_ JO).Type_), .int .u64 ((rd JN.Sections_ JO).Flags_), .int .u64 ((rd JN.Sections_ JO).Addr_), qr ((rd JN.Sections_ JO).Data_), .int .i64 ((rd JN.Sections_ JO).Size_), .int .i64 ((rd JN.Sections_ JO).Link_), .int .i64 ((rd JN.Sections_ JO).Info_), .int .u64 ((rd JN.Sections_ JO).Align_), .int .u64 ((rd JN.Sections_ JO).Each_)]) hS rfl rfl Vc rfl rfl Tryd.sizeOf43 (by simp [Value.oneCell']) (Nat.le_of_ble_eq_true rfl) rfl fun w Vo Vd hS => qs <| qn <| sO hS (xR 0 rfl Vd rfl ([qr ((rd JN.Sections_ JO).Name_), .int .i64 ((rd JN.Sections_ JO).Type_), .int .u64 ((rd JN.Sections_ JO).Flags_), .int .u64 ((rd JN.Sections_ JO).Addr_), qr ((rd JN.Sections_ JO).Data_), .int .i64 ((rd JN.Sections_ JO).Size_), .int .i64 ((rd JN.Sections_ JO).Link_), .int .i64 ((rd JN.Sections_ JO).Info_), .int .u64 ((rd JN.Sections_ JO).Align_), .int .u64 ((rd JN.Sections_ JO).Each_)]) rfl rfl Tryd.isAgg43 Tryd.sizeOf43) rfl fun hS => ql hS rfl Tryd.call67 (vc hG K (qa.mk ((rd JN.Sections_ JO).Name_) ((rd JN.Sections_ JO).Type_) ((rd JN.Sections_ JO).Flags_) ((rd JN.Sections_ JO).Addr_) ((rd JN.Sections_ JO).Data_) ((rd JN.Sections_ JO).Size_) ((rd JN.Sections_ JO).Link_) ((rd JN.Sections_ JO).Info_) ((rd JN.Sections_ JO).Align_) ((rd JN.Sections_ JO).Each_)) (hS.st.part 0 [0] (by kernel_rfl)) (qf hM) (fun Vr w hM  hst => qk hS.ev hst.appF rfl fun hS => ?_))
       replace hS : Ss _ _ _ H [Vo] F _ _ := hS
       refine sO hS (un rfl rfl) rfl fun hS => qs <| qI hS rfl hM (fun JX hM => ?_) (fun JX hM => ?_)
       ·refine wp_seq ?_
        refine zI <| sA hS rfl fun hS => qs <| wp_ret <| zK (qx (qx (zK (qx ?_))))
        exact qT (rs := [2]) hS rfl rfl (hret false _ (qC hM) (hS.st.pick [] (by kernel_rfl)))
       ·refine wp_skip ?_
        refine xr (qi ?_)
        refine zI <| sB hS rfl fun hS => sM hS rfl fun hS => qN <| qi ?_
        exact JU _ _ ⟨(qM (JO + (1 : Int))), hS.to [] (by kernel_rfl) ⟨rfl, rfl, rfl, trivial⟩, hM⟩
      ·refine wp_exit ?_
       refine qK (qK (zi (qi ?_)))
       refine qn <| sA hS rfl fun hS => qs <| wp_ret ?_
       exact qT (rs := [2]) hS rfl rfl (hret true _ (qC hM) (hS.st.pick [] (by kernel_rfl)))
theorem jL {H : zB} {F : List qj} {w : World} {R : Ending → World → Prop} {kr : Bool → Prop} {kp : Value → Prop} (hG : Gl H) (K : Nat) (JN : Int)
    (hS : St w H [] F) (hm : (yK.m K JN).wp kr kp)
    (hret : ∀ (JO : Bool) (w : World), kr JO → St w H [] F → R (.returned (.bool JO)) w) :
    Calls Tryd.prog 98 ⟨[.int .i64 JN]⟩ w R := by
 refine enter Tryd.func98 rfl Tryd.ntmps98 rfl hS fun a w hS => ?_
 have hM := hm; clear hm
 rw [yK.m] at hM
 refine qn <| sA hS rfl fun hS => qs <| qn <| sM hS rfl fun hS => sB hS rfl fun hS => sM hS rfl fun hS => xy 2 true 5 (b := (decide (JN > (0 : Int)))) (r := (decide (JN ≤ (8 : Int)))) hS rfl rfl rfl rfl rfl rfl rfl (fun hb a w hS K hK => ?_) rfl fun a w hS => ?_
 ·refine qw hS rfl rfl rfl hb (mv rfl) rfl fun a w hS => ?_
  refine qw hS rfl rfl rfl hb (x6 rfl rfl rfl) rfl fun a w hS => ?_
  exact qN (hK _ _ (hS.up 2 rfl rfl))
 refine sM hS rfl fun hS => xy 5 true 9 (b := ((decide (JN > (0 : Int))) && (decide (JN ≤ (8 : Int))))) (r := ((Zx .i64 JN (qM (JN - (1 : Int)))) == (0 : Int))) hS rfl rfl rfl rfl rfl rfl rfl (fun hb a w hS K hK => ?_) rfl fun a w hS => ?_
 ·refine qw hS rfl rfl rfl hb (mv rfl) rfl fun a w hS => ?_
  refine qw hS rfl rfl rfl hb (mv rfl) rfl fun a w hS => qw hS rfl rfl rfl hb (x6 rfl rfl rfl) rfl fun a w hS => qw hS rfl rfl rfl hb (x6 rfl rfl rfl) rfl fun a w hS => qw hS rfl rfl rfl hb (x6 rfl rfl rfl) rfl fun a w hS => ?_
  exact qN (hK _ _ (hS.up 5 rfl rfl))
 refine zO (v := Value.bool) (x0 := (((decide (JN > (0 : Int))) && (decide (JN ≤ (8 : Int)))) && ((Zx .i64 JN (qM (JN - (1 : Int)))) == (0 : Int)))) hS (xK rfl) rfl fun JP a w hz hS => ?_
 have hM := qO hz hM; clear hz
 refine qs <| wp_ret ?_
 exact qT (rs := [2]) hS rfl rfl (hret JP _ (qC hM) (hS.st.pick [] (by kernel_rfl)))
theorem vk {H : zB} {F : List qj} {w : World} {R : Ending → World → Prop} {kr : Int → Prop} {kp : Value → Prop} (hG : Gl H) (K : Nat) (JS : Int)
    (hS : St w H [] F) (hm : (qz.m K JS).wp kr kp)
    (hret : ∀ (J4 : Int) (w : World), kr J4 → St w H [] F → R (.returned (.int .i64 J4)) w) :
    Calls Tryd.prog 99 ⟨[.int .u64 JS]⟩ w R := by
 refine enter Tryd.func99 rfl Tryd.ntmps99 rfl hS fun a w hS => ?_
 have hM := hm; clear hm
 rw [qz.m] at hM
 refine qn <| sA hS rfl fun hS => qs <| zq (fun a w => ∃ (JQ : Int) (JN : Int), Ss 25 [] [(0, .int .u64 JQ), (2, .int .i64 JN)] H [] F a w ∧ (qz.j1 K JQ JN).wp kr kp) (fun J8 JU => ?_) ?_
 ·refine wp_seq ?_
  refine zI <| sM hS rfl fun hS => sB hS rfl fun hS => qs <| qI hS rfl hM (fun JX hM => ?_) (fun JX hM => ?_)
  ·refine wp_seq ?_
   refine zI <| sM hS rfl fun hS => sO hS (shr rfl rfl rfl) rfl fun hS => zO (v := Value.int .u64) (x0 := (yU .u64 JS (32 : Int))) hS (xK rfl) rfl fun J5 a w hz hS => ?_
   have hM := qO hz hM; clear hz
   refine qs <| zI <| sA hS rfl fun hS => qN <| qi ?_
   exact JU _ _ ⟨J5, (32 : Int), hS.to [] (by kernel_rfl) ⟨rfl, rfl, trivial⟩, hM⟩
  ·refine wp_skip ?_
   refine qi ?_
   exact JU _ _ ⟨JS, (0 : Int), hS.to [] (by kernel_rfl) ⟨rfl, rfl, trivial⟩, hM⟩
 ·intro a w hI
  obtain ⟨JQ, JN, hS, hM⟩ := hI
  rw [qz.j1] at hM
  refine zq (fun a w => ∃ (JR : Int) (JO : Int), Ss 25 [] [(0, .int .u64 JR), (2, .int .i64 JO)] H [] F a w ∧ (qz.j2 K JR JO).wp kr kp) (fun J9 JV => ?_) ?_
  ·refine wp_seq ?_
   refine zI <| sM hS rfl fun hS => sB hS rfl fun hS => qs <| qI hS rfl hM (fun JY hM => ?_) (fun JY hM => ?_)
   ·refine wp_seq ?_
    refine zI <| sM hS rfl fun hS => sO hS (shr rfl rfl rfl) rfl fun hS => zO (v := Value.int .u64) (x0 := (yU .u64 JQ (16 : Int))) hS (xK rfl) rfl fun J6 a w hz hS => ?_
    have hM := qO hz hM; clear hz
    refine qs <| zI <| sM hS rfl fun hS => sB hS rfl fun hS => zO (v := Value.int .i64) (x0 := (qM (JN + (16 : Int)))) hS (xK rfl) rfl fun J1 a w hz hS => ?_
    have hM := qO hz hM; clear hz
    refine qN <| qi ?_
    exact JV _ _ ⟨J6, J1, hS.to [] (by kernel_rfl) ⟨rfl, rfl, trivial⟩, hM⟩
   ·refine wp_skip ?_
    refine qi ?_
    exact JV _ _ ⟨JQ, JN, hS.to [] (by kernel_rfl) ⟨rfl, rfl, trivial⟩, hM⟩
  ·intro a w hI
   obtain ⟨JR, JO, hS, hM⟩ := hI
   rw [qz.j2] at hM
   refine zq (fun a w => ∃ (JT : Int) (JP : Int), Ss 25 [] [(0, .int .u64 JT), (2, .int .i64 JP)] H [] F a w ∧ (qz.j3 K JT JP).wp kr kp) (fun Va JW => ?_) ?_
   ·refine wp_seq ?_
    refine zI <| sM hS rfl fun hS => sB hS rfl fun hS => qs <| qI hS rfl hM (fun JZ hM => ?_) (fun JZ hM => ?_)
    ·refine wp_seq ?_
     refine zI <| sM hS rfl fun hS => sO hS (shr rfl rfl rfl) rfl fun hS => zO (v := Value.int .u64) (x0 := (yU .u64 JR (8 : Int))) hS (xK rfl) rfl fun J7 a w hz hS => ?_
     have hM := qO hz hM; clear hz
     refine qs <| zI <| sM hS rfl fun hS => sB hS rfl fun hS => zO (v := Value.int .i64) (x0 := (qM (JO + (8 : Int)))) hS (xK rfl) rfl fun J2 a w hz hS => ?_
     have hM := qO hz hM; clear hz
     refine qN <| qi ?_
     exact JW _ _ ⟨J7, J2, hS.to [] (by kernel_rfl) ⟨rfl, rfl, trivial⟩, hM⟩
    ·refine wp_skip ?_
     refine qi ?_
     exact JW _ _ ⟨JR, JO, hS.to [] (by kernel_rfl) ⟨rfl, rfl, trivial⟩, hM⟩
   ·intro a w hI
    obtain ⟨JT, JP, hS, hM⟩ := hI
    rw [qz.j3] at hM
    refine qn <| sM hS rfl fun hS => sM hS rfl fun hS => sO hS (yM rfl Tryd.runUnderlying23 Tryd.runUnderlying5) rfl fun hS => ?_
    obtain ⟨J0, hM⟩ := qL hM
    refine sO hS (Q9 rfl rfl Tryd.runUnderlying9 J0) rfl fun hS => sO hS (yM rfl Tryd.runUnderlying5 Tryd.runUnderlying3) rfl fun hS => sB hS rfl fun hS => zO (v := Value.int .i64) (x0 := (qM (JP + (wr .i64 ((rd ([0, 1, 2, 2, 3, 3, 3, 3, 4, 4, 4, 4, 4, 4, 4, 4, 5, 5, 5, 5, 5, 5, 5, 5, 5, 5, 5, 5, 5, 5, 5, 5, 6, 6, 6, 6, 6, 6, 6, 6, 6, 6, 6, 6, 6, 6, 6, 6, 6, 6, 6, 6, 6, 6, 6, 6, 6, 6, 6, 6, 6, 6, 6, 6, 7, 7, 7, 7, 7, 7, 7, 7, 7, 7, 7, 7, 7, 7, 7, 7, 7, 7, 7, 7, 7, 7, 7, 7, 7, 7, 7, 7, 7, 7, 7, 7, 7, 7, 7, 7, 7, 7, 7, 7, 7, 7, 7, 7, 7, 7, 7, 7, 7, 7, 7, 7, 7, 7, 7, 7, 7, 7, 7, 7, 7, 7, 7, 7, 8, 8, 8, 8, 8, 8, 8, 8, 8, 8, 8, 8, 8, 8, 8, 8, 8, 8, 8, 8, 8, 8, 8, 8, 8, 8, 8, 8, 8, 8, 8, 8, 8, 8, 8, 8, 8, 8, 8, 8, 8, 8, 8, 8, 8, 8, 8, 8, 8, 8, 8, 8, 8, 8, 8, 8, 8, 8, 8, 8, 8, 8, 8, 8, 8, 8, 8, 8, 8, 8, 8, 8, 8, 8, 8, 8, 8, 8, 8, 8, 8, 8, 8, 8, 8, 8, 8, 8, 8, 8, 8, 8, 8, 8, 8, 8, 8, 8, 8, 8, 8, 8, 8, 8, 8, 8, 8, 8, 8, 8, 8, 8, 8, 8, 8, 8, 8, 8, 8, 8, 8, 8, 8, 8, 8, 8, 8, 8] : List UInt8) (wr .u8 JT)).toNat : Int))))) hS (xK rfl) rfl fun J3 a w hz hS => ?_
    have hM := qO hz hM; clear hz
    refine qs <| wp_ret ?_
    exact qT (rs := [2]) hS rfl rfl (hret J3 _ (qC hM) (hS.st.pick [] (by kernel_rfl)))
theorem y2 {H : zB} {F : List qj} {w : World} {R : Ending → World → Prop} {kr : Unit → Prop} {kp : Value → Prop} (hG : Gl H) (K : Nat) (JN : Int)
    (hS : St w H [] F) (hm : (xp.m K JN).wp kr kp)
    (hret : ∀ (w : World), kr () → St w H [] F → R (.returned (Qz 109 [] [])) w) :
    Calls Tryd.prog 100 ⟨[.int .i64 JN, .bool false]⟩ w R := by
 refine enter Tryd.func100 rfl Tryd.ntmps100 rfl hS fun a w hS => ?_
 have hM := hm; clear hm
 rw [xp.m] at hM
 refine qn <| bx ([.int .i64 JN]) hS rfl rfl rfl fun w JP JQ JO hS => sA hS rfl fun hS => qs <| wp_seq <| qn <| sM hS rfl fun hS => qs <| yC hS rfl <| wp_skip <| qi <| qn <| sA hS rfl fun hS => qs <| wp_ret ?_
 exact qT (rs := [4]) hS rfl rfl (hret _ (qC hM) (hS.st.pick [] (by kernel_rfl)))
theorem jM {H : zB} {F : List qj} {w : World} {R : Ending → World → Prop} {kr : Unit → Prop} {kp : Value → Prop} (hG : Gl H) (K : Nat) (JN : Int)
    (hS : St w H [] F) (hm : (yc.m K JN).wp kr kp)
    (hret : ∀ (w : World), kr () → St w H [] F → R (.returned (.int .i64 JN)) w) :
    Calls Tryd.prog 109 ⟨[.int .i64 JN]⟩ w R := by
 refine enter Tryd.func109 rfl Tryd.ntmps109 rfl hS fun a w hS => ?_
 have hM := hm; clear hm
 rw [yc.m] at hM
 refine qn <| sA hS rfl fun hS => qs <| qn <| sM hS rfl fun hS => sA hS rfl fun hS => qs <| wp_ret ?_
 exact qT (rs := [2]) hS rfl rfl (hret _ (qC hM) (hS.st.pick [] (by kernel_rfl)))
theorem yn {H : zB} {F : List qj} {w : World} {R : Ending → World → Prop} {kr : ((List UInt8) × Int) → Prop} {kp : Value → Prop} (hG : Gl H) (K : Nat) (JO : Int) (JP : Int)
    (hS : St w H [] F) (hm : (qV.m K JO JP).wp kr kp)
    (hret : ∀ (J8 : List UInt8) (J9 : Int) (w : World), kr (J8, J9) → St w H [] F → R (.returned (.tuple ⟨[qr J8, .int .i64 J9]⟩)) w) :
    Calls Tryd.prog 85 ⟨[.int .u64 JO, .int .i64 JP, .bool false]⟩ w R := by
 refine enter Tryd.func85 rfl Tryd.ntmps85 rfl hS fun a w hS => ?_
 have hM := hm; clear hm
 rw [qV.m] at hM
 refine qn <| sA hS rfl fun hS => sA hS rfl fun hS => qs <| wp_seq <| qn <| sM hS rfl fun hS => ql hS rfl Tryd.call98 (jL hG K JP (hS.st.part 0 [] (by kernel_rfl)) (qf hM) (fun Ve w hM  hst => qk hS.ev hst.appF rfl fun hS => ?_))
 replace hS : Ss _ _ _ H [] F _ _ := hS
 refine sO hS (un rfl rfl) rfl fun hS => qs <| qI hS rfl hM (fun J2 hM => ?_) (fun J2 hM => ?_)
 ·refine wp_seq ?_
  refine zI <| sA hS rfl fun hS => sA hS rfl fun hS => qs <| wp_ret <| qx ?_
  exact qT (rs := [6, 7]) hS rfl rfl (hret ([] : List UInt8) (1 : Int) _ (qC hM) (hS.st.pick [] (by kernel_rfl)))
 ·refine wp_skip ?_
  refine qi <| wp_seq <| qn <| sM hS rfl fun hS => ql hS rfl Tryd.call99 (vk hG K JO (hS.st.part 0 [] (by kernel_rfl)) (qf hM) (fun Vf w hM  hst => qk hS.ev hst.appF rfl fun hS => ?_))
  replace hS : Ss _ _ _ H [] F _ _ := hS
  refine sM hS rfl fun hS => sB hS rfl fun hS => sB hS rfl fun hS => qs <| qI hS rfl hM (fun J3 hM => ?_) (fun J3 hM => ?_)
  ·refine wp_seq ?_
   refine zI <| sA hS rfl fun hS => sA hS rfl fun hS => qs <| wp_ret <| qx ?_
   exact qT (rs := [6, 7]) hS rfl rfl (hret ([] : List UInt8) (10 : Int) _ (qC hM) (hS.st.pick [] (by kernel_rfl)))
  ·refine wp_skip ?_
   refine qi <| qn <| sM hS rfl fun hS => sM hS rfl fun hS => ql hS rfl Tryd.call100 (y2 hG K JP (hS.st.part 0 [] (by kernel_rfl)) (qf hM) (fun  w hM  hst => qk hS.ev hst.appF rfl fun hS => ?_))
   replace hS : Ss _ _ _ H [] F _ _ := hS
   refine sA hS rfl fun hS => qs <| qn <| sM hS rfl fun hS => ?_
   obtain ⟨J5, hM⟩ := qL hM
   refine Jo (g := (ci .u8)) (m := JP) (0 : Int) hS rfl rfl (by simp) Tryd.runUnderlying40 X.el5 (fun w => ⟨_, Tryd.zeroValue5 w, rfl⟩) (fun _ => rfl) rfl rfl J5 rfl fun JT w JR JS Va hz J0 hS => ?_
   have hM := qO hz hM; clear hz
   refine sA hS rfl fun hS => qs <| wp_seq <| qn <| sM hS rfl fun hS => sO hS (xz rfl Tryd.runUnderlying40) rfl fun hS => sM hS rfl fun hS => qs <| yp <| zz (fun J7 a w => ∃ (JQ : (List Int)) (JV : qj) (JN : Int), Ss 42 [] [(0, .int .u64 JO), (8, Qz 109 [] []), (9, .slice JR JQ.length JS), (25, .int .i64 (JT.length : Int)), (26, .int .i64 JN)] H [JV] F a w ∧ (zp 5 (ci .u8) 1 JR JQ JS JV) ∧ (qV.l1 K JO JT J7 JQ JN).wp kr kp) K ?_ ?_ ?_
   ·exact ⟨JT, Va, (0 : Int), hS.to [0] (by kernel_rfl) ⟨rfl, rfl, rfl, rfl, rfl, trivial⟩, J0, hM⟩
   ·intro a w hI; obtain ⟨_, _, _, _, _, hM⟩ := hI; exact zA hM
   ·intro J7 a w hI Vd JZ
    obtain ⟨JQ, JV, JN, hS, JU, hM⟩ := hI
    rw [qV.l1] at hM
    refine qn <| sB hS rfl fun hS => qs <| wp_seq <| qI hS rfl hM (fun J4 hM => ?_) (fun J4 hM => ?_)
    ·refine wp_skip ?_
     refine qi <| wp_seq <| yp <| qn <| sM hS rfl fun hS => sA hS rfl fun hS => qN <| qi ?_
     obtain ⟨JW, hM⟩ := qL hM
     refine qR (vals := [some (.slice JR JQ.length JS), some (Qz 109 [] []), some (.int .i64 JN), none, some (.int .u64 JO), some (.int .i64 JN), some (.int .i64 (qM ((8 : Int) * JN))), some (.int .u64 (yU .u64 JO (qM ((8 : Int) * JN)))), some (.int .u8 (wr .u8 (yU .u64 JO (qM ((8 : Int) * JN))))), none, none]) hS xe rfl ?_
     intro l w ho hcl hA hst
     refine yA hA hst ho hcl zU xf 3 [0, 1, 2, 4, 5, 6, 7, 8] rfl rfl rfl rfl rfl (by exact ⟨nM rfl, nM rfl, nM rfl, nM rfl, nM rfl, nB rfl, nQ rfl (by exact qH (shr rfl rfl JW) rfl), nQ rfl (by exact qH (yM rfl Tryd.runUnderlying23 Tryd.runUnderlying5) rfl), trivial⟩) fun D l a w ho hcl hav hpre hm hE hk hA hst => ?_
     have hS := (Ss.mk hE hst).env2 (e' := [(30, Qz 109 [] []), (31, .int .i64 JN)]) ⟨rfl, rfl, trivial⟩
     refine qy rfl <| uU hS rfl rfl Tryd.call109 (jM hG K JN (hS.st.part 0 [0] (by kernel_rfl)) (qf hM) (fun  w hM  hst => qk hS.ev hst.appF rfl fun hS => ?_))
     replace hS : Ss _ _ _ H [JV] F _ _ := hS
     refine qs ?_
     replace hst := hS.st
     obtain ⟨JX, hM⟩ := qL hM
     obtain ⟨hcl, hmust, hav2, hA⟩ := dn (vals' := [some (.slice JR JQ.length JS), some (Qz 109 [] []), some (.int .i64 JN), some (.int .i64 JN), some (.int .u64 JO), some (.int .i64 JN), some (.int .i64 (qM ((8 : Int) * JN))), some (.int .u64 (yU .u64 JO (qM ((8 : Int) * JN)))), some (.int .u8 (wr .u8 (yU .u64 JO (qM ((8 : Int) * JN))))), some (jK JR (Int.toNat JN * 1)), none]) 3 [(1, 3), (2, 3)] hA hcl hav hm hpre hk rfl rfl rfl rfl rfl rfl rfl
     clear hm hav
     refine yA hA hst ho hcl hav2 hmust 10 [0, 4, 5, 6, 7, 8, 9] rfl rfl rfl rfl rfl (by exact ⟨nM rfl, nM rfl, nM rfl, nB rfl, nQ rfl (by exact qH (shr rfl rfl JW) rfl), nQ rfl (by exact qH (yM rfl Tryd.runUnderlying23 Tryd.runUnderlying5) rfl), nQ rfl (by exact qH (vS rfl rfl Tryd.runUnderlying40 Tryd.sizeOf5 (JU.rd (i := 0) rfl) (fun _ => rfl) rfl JX) rfl), trivial⟩) fun D l a w ho hcl hav hpre hm hE hk hA hst => ?_
     have hS := (Ss.mk hE hst).env2 (e' := [(37, .int .u8 (wr .u8 (yU .u64 JO (qM ((8 : Int) * JN))))), (38, jK JR (Int.toNat JN * 1))]) ⟨rfl, rfl, trivial⟩
     refine qy rfl <| Ja (i := JN) (sz := 1) 0 0 ((wr .u8 (yU .u64 JO (qM ((8 : Int) * JN))))) hS rfl rfl JU rfl Tryd.sizeOf5 (QE (wr .u8 (yU .u64 JO (qM ((8 : Int) * JN))))) (fun _ => rfl) JX rfl rfl fun JY w Vb hz J6 J1 hS => ?_
     have hM := qO hz hM; clear hz
     refine qs ?_
     replace hst := hS.st
     obtain ⟨hcl, hmust, hav2, hA⟩ := Yb (vals' := [some (.slice JR JQ.length JS), some (Qz 109 [] []), some (.int .i64 JN), some (.int .i64 JN), some (.int .u64 JO), some (.int .i64 JN), some (.int .i64 (qM ((8 : Int) * JN))), some (.int .u64 (yU .u64 JO (qM ((8 : Int) * JN)))), some (.int .u8 (wr .u8 (yU .u64 JO (qM ((8 : Int) * JN))))), some (jK JR (Int.toNat JN * 1)), some undef]) 10 [(0, 10), (1, 10), (2, 10), (3, 10), (4, 10), (5, 10), (6, 10), (7, 10), (8, 10), (9, 10)] hA hcl hav hm hpre rfl rfl rfl rfl rfl
     clear hm hav
     refine xL hA hst ho hcl hmust [] rfl rfl rfl trivial fun a w hS => ?_
     replace hS := hS.env2 (e' := [(0, .int .u64 JO), (8, Qz 109 [] []), (9, .slice JR JY.length JS), (25, .int .i64 (JT.length : Int)), (26, .int .i64 JN)]) ⟨rfl, rfl, (Y4 (u := .slice JR JQ.length JS) rfl (by rw [J6])), rfl, rfl, trivial⟩
     refine xr (qi ?_)
     refine zI <| sB hS rfl fun hS => sM hS rfl fun hS => qN <| qi ?_
     exact JZ _ _ ⟨JY, Vb, (qM (JN + (1 : Int))), hS.to [0] (by kernel_rfl) ⟨rfl, rfl, rfl, rfl, rfl, trivial⟩, J1, hM⟩
    ·refine wp_exit ?_
     refine qK (qK (zi (qi ?_)))
     refine qn <| sM hS rfl fun hS => sO hS (YV rfl Tryd.runUnderlying40 Tryd.runUnderlying5 Tryd.runUnderlying9 (JU.rd (i := 0) rfl)) rfl fun hS => zO (v := qr) (x0 := (JQ.map yt)) hS (xK rfl) rfl fun Vc a w hz hS => ?_
     have hM := qO hz hM; clear hz
     refine sA hS rfl fun hS => qs <| wp_ret ?_
     exact qT (rs := [6, 7]) hS rfl rfl (hret Vc (0 : Int) _ (qC hM) (hS.st.pick [] (by kernel_rfl)))
theorem xg {H : zB} {F : List qj} {w : World} {R : Ending → World → Prop} {kr : (Int × (List Int)) → Prop} {kp : Value → Prop} (hG : Gl H) (K : Nat) (JN : qg) (J6 : List UInt8) (JO : Nat) (Vb : qj) (J0 : Option Addr) (J1 : Option Addr) (J4 : Nat) (J5 : qj) (JR : Option Addr) (JT : Option Addr) (JV : Nat) (JX : qj) (JS : Option Addr) (JU : Option Addr) (JW : Nat) (JY : qj) (Vh : zH Vb JO ([.pointer J0, .slice J1 JN.bytes_.Builder_.length J4, .pointer JR, .slice JT JN.headers_.Builder_.length JV, .pointer JS, .slice JU JN.names_.length JW]) 85) (Vf : J0 = none ∨ J0 = some ⟨JO, 0, none⟩) (Vj : zp 5 (ci .u8) 1 J1 JN.bytes_.Builder_ J4 J5) (Vq : JR = none ∨ JR = some ⟨JO, 2, none⟩) (Vs : zp 5 (ci .u8) 1 JT JN.headers_.Builder_ JV JX) (Vr : JS = none ∨ JS = some ⟨JO, 4, none⟩) (Vt : zp 5 (ci .u8) 1 JU JN.names_ JW JY)
    (hS : St w H [Vb, J5, JX, JY] F) (hm : (zv.m K JN J6).wp kr kp)
    (hret : ∀ (Vm : Int) (J3 : Option Addr) (J8 : Option Addr) (Va : Nat) (JP : (List Int)) (Vd : qj) (Ve : qj) (w : World), kr (Vm, JP) → (J3 = none ∨ J3 = some ⟨JO, 0, none⟩) → (zp 5 (ci .u8) 1 J8 JP Va Vd) → (zH Ve JO ([.pointer J3, .slice J8 JP.length Va, .pointer JR, .slice JT JN.headers_.Builder_.length JV, .pointer JS, .slice JU JN.names_.length JW]) 85) → St w H [Ve, Vd, JX, JY] F → R (.returned (.tuple ⟨[.int .i64 Vm, .nilIface]⟩)) w) :
    Calls Tryd.prog 37 ⟨[qp JO 0, qr J6]⟩ w R := by
 refine enter Tryd.func37 rfl Tryd.ntmps37 rfl hS fun a w hS => ?_
 have hM := hm; clear hm
 rw [zv.m] at hM
 refine qn <| sA hS rfl fun hS => sA hS rfl fun hS => qs <| qn <| sM hS rfl fun hS => ql hS rfl Tryd.call69 (jZ rfl rfl Vh Vf (hS.st.part 1 [0, 1, 2, 3] (by kernel_rfl)) (fun J2 Vc w Vg JQ hst => qk hS.ev hst.appF rfl fun hS => ?_))
 replace hS : Ss _ _ _ H [Vc, J5, JX, JY] F _ _ := hS
 replace JQ : zH Vc JO ([.pointer J2, .slice J1 JN.bytes_.Builder_.length J4, .pointer JR, .slice JT JN.headers_.Builder_.length JV, .pointer JS, .slice JU JN.names_.length JW]) 85 := JQ
 refine qs <| qn <| sM hS rfl fun hS => sM hS rfl fun hS => sO hS (xm rfl) rfl fun hS => sO hS (qU rfl Tryd.runUnderlying81 rfl Tryd.sizeOf40 rfl) rfl fun hS => sO hS (zD 0 rfl JQ rfl rfl Tryd.isAgg40) rfl fun hS => sM hS rfl fun hS => ?_
 obtain ⟨Vl, hM⟩ := qL hM
 refine Ye 1 hS rfl rfl Vj rfl Tryd.runUnderlying40 Tryd.runUnderlying9 X.el5 rfl Vl rfl fun JZ w J7 J9 Vn hz Vk hS => ?_
 have hM := qO hz hM; clear hz
 refine sO hS (xm rfl) rfl fun hS => sO hS (qU rfl Tryd.runUnderlying81 rfl Tryd.sizeOf40 rfl) rfl fun hS => y3 0 ([.pointer J2, .slice J7 JZ.length J9, .pointer JR, .slice JT JN.headers_.Builder_.length JV, .pointer JS, .slice JU JN.names_.length JW]) hS rfl rfl JQ rfl rfl rfl rfl Tryd.sizeOf40 fun w Vo Vi hS => qs <| qn <| sM hS rfl fun hS => sO hS (yi rfl Tryd.runUnderlying9) rfl fun hS => zO (v := Value.int .i64) (x0 := (J6.length : Int)) hS (xK rfl) rfl fun Vp a w hz hS => ?_
 have hM := qO hz hM; clear hz
 refine sA hS rfl fun hS => qs <| wp_ret ?_
 exact qT (rs := [4, 5]) hS rfl rfl (hret Vp J2 J7 J9 JZ Vn Vo _ (qC hM) Vg Vk Vi (hS.st.pick [0, 1, 2, 3] (by kernel_rfl)))
theorem xT {H : zB} {F : List qj} {w : World} {R : Ending → World → Prop} {kr : (List Int) → Prop} {kp : Value → Prop} (hG : Gl H) (K : Nat) (JN : qg) (JO : Int) (JQ : List Int) (JR : Nat) (Vj : qj) (J7 : Option Addr) (Vd : Option Addr) (Vh : Nat) (Vk : qj) (JV : Option Addr) (J0 : Option Addr) (J3 : Nat) (JT : qj) (JW : Option Addr) (J1 : Option Addr) (J4 : Nat) (JU : qj) (Ve : Option Addr) (Vi : Nat) (Vu : zH Vj JR ([.pointer J7, .slice Vd JN.bytes_.Builder_.length Vh, .pointer JV, .slice J0 JN.headers_.Builder_.length J3, .pointer JW, .slice J1 JN.names_.length J4]) 85) (Vr : J7 = none ∨ J7 = some ⟨JR, 0, none⟩) (Vw : zp 5 (ci .u8) 1 Vd JN.bytes_.Builder_ Vh Vk) (Vs : JV = none ∨ JV = some ⟨JR, 2, none⟩) (Vx : zp 5 (ci .u8) 1 J0 JN.headers_.Builder_ J3 JT) (Vt : JW = none ∨ JW = some ⟨JR, 4, none⟩) (Vy : zp 5 (ci .u8) 1 J1 JN.names_ J4 JU) (Vc : yT H [] F (ci .u64) Ve JQ) (VJ : JQ.length ≤ Vi)
    (hS : St w H [Vj, Vk, JT, JU] F) (hm : (q5.m K JN JO JQ).wp kr kp)
    (hret : ∀ (Vf : Option Addr) (Vl : Option Addr) (Vm : Nat) (JS : (List Int)) (Vp : qj) (Vq : qj) (w : World), kr JS → (Vf = none ∨ Vf = some ⟨JR, 0, none⟩) → (zp 5 (ci .u8) 1 Vl JS Vm Vp) → (zH Vq JR ([.pointer Vf, .slice Vl JS.length Vm, .pointer JV, .slice J0 JN.headers_.Builder_.length J3, .pointer JW, .slice J1 JN.names_.length J4]) 85) → St w H [Vq, Vp, JT, JU] F → R (.returned (.tuple ⟨[]⟩)) w) :
    Calls Tryd.prog 68 ⟨[qp JR 0, .int .i64 JO, .slice Ve JQ.length Vi]⟩ w R := by
 refine enter Tryd.func68 rfl Tryd.ntmps68 rfl hS fun a w hS => ?_
 have hM := hm; clear hm
 rw [q5.m] at hM
 refine qn <| sM hS rfl fun hS => sO hS (xz rfl Tryd.runUnderlying73) rfl fun hS => sM hS rfl fun hS => qs <| yp <| zz (fun VA a w => ∃ (JX : Option Addr) (J2 : Option Addr) (J5 : Nat) (JP : (List Int)) (JY : qj) (JZ : qj) (J6 : Int), Ss 28 [] [(0, qp JR 0), (1, .int .i64 JO), (10, .slice Ve JQ.length Vi), (11, .int .i64 (JQ.length : Int)), (12, .int .i64 J6)] H [JZ, JY, JT, JU] F a w ∧ (JX = none ∨ JX = some ⟨JR, 0, none⟩) ∧ (zp 5 (ci .u8) 1 J2 JP J5 JY) ∧ (zH JZ JR ([.pointer JX, .slice J2 JP.length J5, .pointer JV, .slice J0 JN.headers_.Builder_.length J3, .pointer JW, .slice J1 JN.names_.length J4]) 85) ∧ (q5.l1 K JN JO JQ VA JP J6).wp kr kp) K ?_ ?_ ?_
 ·exact ⟨J7, Vd, Vh, JN.bytes_.Builder_, Vk, Vj, (0 : Int), hS.to [0, 1, 2, 3] (by kernel_rfl) ⟨rfl, rfl, rfl, rfl, rfl, trivial⟩, Vr, Vw, Vu, hM⟩
 ·intro a w hI; obtain ⟨_, _, _, _, _, _, _, _, _, _, _, hM⟩ := hI; exact zA hM
 ·intro VA a w hI VK Vv
  obtain ⟨JX, J2, J5, JP, JY, JZ, J6, hS, J8, Va, J9, hM⟩ := hI
  rw [q5.l1] at hM
  refine qn <| sB hS rfl fun hS => qs <| wp_seq <| qI hS rfl hM (fun Vz hM => ?_) (fun Vz hM => ?_)
  ·refine wp_skip ?_
   refine qi <| wp_seq <| yp <| wp_seq <| zI ?_
   obtain ⟨Vb, hM⟩ := qL hM
   refine sO hS (vS rfl rfl Tryd.runUnderlying73 Tryd.sizeOf23 Vc.wk (fun _ => rfl) rfl Vb) rfl fun hS => sO hS (uP rfl Vc.wk (fun _ => rfl) Vb rfl Tryd.isAgg23) rfl fun hS => zO (v := Value.int .u64) (x0 := (rd JQ J6)) hS (xK rfl) rfl fun VB a w hz hS => ?_
   have hM := qO hz hM; clear hz
   refine qs <| qn <| sM hS rfl fun hS => sM hS rfl fun hS => ql hS rfl Tryd.call85 (yn hG K VB JO (hS.st.part 0 [0, 1, 2, 3] (by kernel_rfl)) (qf hM) (fun VI VL w hM  hst => qk hS.ev hst.appF rfl fun hS => ?_))
   replace hS : Ss _ _ _ H [JZ, JY, JT, JU] F _ _ := hS
   refine sM hS rfl fun hS => sO hS (ex rfl rfl) rfl fun hS => sO hS (ex rfl rfl) rfl fun hS => sA hS rfl fun hS => sA hS rfl fun hS => qs <| zI <| sM hS rfl fun hS => sO hS (xm rfl) rfl fun hS => sO hS (qU rfl Tryd.runUnderlying83 rfl Tryd.sizeOf81 rfl) rfl fun hS => sM hS rfl fun hS => ql hS rfl Tryd.call37 (xg hG K (qg.mk (qc.mk JP) JN.headers_ JN.names_) VI JR JZ JX J2 J5 JY JV J0 J3 JT JW J1 J4 JU J9 J8 Va Vs Vx Vt Vy (hS.st.part 4 [0, 1, 2, 3] (by kernel_rfl)) (qf hM) (fun VM VC VD VE Vg Vn Vo w hM VF VG VH hst => qk hS.ev hst.appF rfl fun hS => ?_))
   replace hS : Ss _ _ _ H [Vo, Vn, JT, JU] F _ _ := hS
   refine qN <| xr (qi ?_)
   refine zI <| sB hS rfl fun hS => sM hS rfl fun hS => qN <| qi ?_
   exact Vv _ _ ⟨VC, VD, VE, Vg, Vn, Vo, (qM (J6 + (1 : Int))), hS.to [0, 1, 2, 3] (by kernel_rfl) ⟨rfl, rfl, rfl, rfl, rfl, trivial⟩, VF, VG, VH, hM⟩
  ·refine wp_exit ?_
   refine qK (qK (zi ?_))
   exact x1 (rs := []) hS rfl rfl (hret JX J2 J5 JP JY JZ _ (qC hM) J8 Va J9 (hS.st.pick [0, 1, 2, 3] (by kernel_rfl)))
theorem y5 {H : zB} {F : List qj} {w : World} {R : Ending → World → Prop} {kr : (List Int) → Prop} {kp : Value → Prop} (hG : Gl H) (K : Nat) (JN : qg) (JP : List Int) (JQ : Nat) (Vk : qj) (J7 : Option Addr) (Ve : Option Addr) (Vi : Nat) (Vl : qj) (JS : Option Addr) (JX : Option Addr) (J0 : Nat) (JV : qj) (JT : Option Addr) (JY : Option Addr) (J1 : Nat) (JW : qj) (Vf : Option Addr) (Vj : Nat) (Vv : zH Vk JQ ([.pointer J7, .slice Ve JN.bytes_.Builder_.length Vi, .pointer JS, .slice JX JN.headers_.Builder_.length J0, .pointer JT, .slice JY JN.names_.length J1]) 85) (Vs : J7 = none ∨ J7 = some ⟨JQ, 0, none⟩) (Vx : zp 5 (ci .u8) 1 Ve JN.bytes_.Builder_ Vi Vl) (Vt : JS = none ∨ JS = some ⟨JQ, 2, none⟩) (Vy : zp 5 (ci .u8) 1 JX JN.headers_.Builder_ J0 JV) (Vu : JT = none ∨ JT = some ⟨JQ, 4, none⟩) (Vz : zp 5 (ci .u8) 1 JY JN.names_ J1 JW) (Vd : yT H [] F (ci .i64) Vf JP) (VL : JP.length ≤ Vj)
    (hS : St w H [Vk, Vl, JV, JW] F) (hm : (zj.m K JN JP).wp kr kp)
    (hret : ∀ (Vg : Option Addr) (Vm : Option Addr) (Vn : Nat) (JR : (List Int)) (Vq : qj) (Vr : qj) (w : World), kr JR → (Vg = none ∨ Vg = some ⟨JQ, 0, none⟩) → (zp 5 (ci .u8) 1 Vm JR Vn Vq) → (zH Vr JQ ([.pointer Vg, .slice Vm JR.length Vn, .pointer JS, .slice JX JN.headers_.Builder_.length J0, .pointer JT, .slice JY JN.names_.length J1]) 85) → St w H [Vr, Vq, JV, JW] F → R (.returned (.tuple ⟨[]⟩)) w) :
    Calls Tryd.prog 34 ⟨[qp JQ 0, .slice Vf JP.length Vj]⟩ w R := by
 refine enter Tryd.func34 rfl Tryd.ntmps34 rfl hS fun a w hS => ?_
 have hM := hm; clear hm
 rw [zj.m] at hM
 refine qn <| sM hS rfl fun hS => sO hS (xz rfl Tryd.runUnderlying65) rfl fun hS => sM hS rfl fun hS => qs <| yp <| zz (fun VB a w => ∃ (JU : Option Addr) (JZ : Option Addr) (J2 : Nat) (JO : (List Int)) (J3 : qj) (J4 : qj) (J6 : Int), Ss 18 [] [(0, qp JQ 0), (6, .slice Vf JP.length Vj), (7, .int .i64 (JP.length : Int)), (8, .int .i64 J6)] H [J4, J3, JV, JW] F a w ∧ (JU = none ∨ JU = some ⟨JQ, 0, none⟩) ∧ (zp 5 (ci .u8) 1 JZ JO J2 J3) ∧ (zH J4 JQ ([.pointer JU, .slice JZ JO.length J2, .pointer JS, .slice JX JN.headers_.Builder_.length J0, .pointer JT, .slice JY JN.names_.length J1]) 85) ∧ (zj.l1 K JN JP VB JO J6).wp kr kp) K ?_ ?_ ?_
 ·exact ⟨J7, Ve, Vi, JN.bytes_.Builder_, Vl, Vk, (0 : Int), hS.to [0, 1, 2, 3] (by kernel_rfl) ⟨rfl, rfl, rfl, rfl, trivial⟩, Vs, Vx, Vv, hM⟩
 ·intro a w hI; obtain ⟨_, _, _, _, _, _, _, _, _, _, _, hM⟩ := hI; exact zA hM
 ·intro VB a w hI VM Vw
  obtain ⟨JU, JZ, J2, JO, J3, J4, J6, hS, J8, Va, J9, hM⟩ := hI
  rw [zj.l1] at hM
  refine qn <| sB hS rfl fun hS => qs <| wp_seq <| qI hS rfl hM (fun VA hM => ?_) (fun VA hM => ?_)
  ·refine wp_skip ?_
   refine qi <| wp_seq <| yp <| wp_seq <| zI ?_
   obtain ⟨Vc, hM⟩ := qL hM
   refine sO hS (vS rfl rfl Tryd.runUnderlying65 Tryd.sizeOf3 Vd.wk (fun _ => rfl) rfl Vc) rfl fun hS => sO hS (uP rfl Vd.wk (fun _ => rfl) Vc rfl Tryd.isAgg3) rfl fun hS => zO (v := Value.int .i64) (x0 := (rd JP J6)) hS (xK rfl) rfl fun J5 a w hz hS => ?_
   have hM := qO hz hM; clear hz
   refine qs <| zI <| sM hS rfl fun hS => sM hS rfl fun hS => sO hS (yM rfl Tryd.runUnderlying3 Tryd.runUnderlying23) rfl fun hS => vQ (g := (ci .u64)) ([(wr .u64 J5)] : List Int) [.int .u64 (wr .u64 J5)] hS Tryd.runUnderlying73 Tryd.sizeOf23 X.el23 rfl rfl rfl (by simp [Value.cells]) rfl rfl rfl rfl rfl fun w VC VF VH Vb hS => ql hS rfl Tryd.call68 (xT hG K (qg.mk (qc.mk JO) JN.headers_ JN.names_) (4 : Int) ([(wr .u64 J5)] : List Int) JQ J4 JU JZ J2 J3 JS JX J0 JV JT JY J1 JW VC VF J9 J8 Va Vt Vy Vu Vz (Vb.rdF (i := 0) rfl) (Vb.cap (fun _ => rfl) rfl) (hS.st.part 4 [1, 2, 3, 4, 0] (by kernel_rfl)) (qf hM) (fun VD VE VG Vh Vo Vp w hM VI VJ VK hst => qk hS.ev hst.appF rfl fun hS => ?_))
   replace hS : Ss _ _ _ H [Vp, Vo, JV, JW, VH] F _ _ := hS
   refine qN <| xr (qi ?_)
   refine zI <| sB hS rfl fun hS => sM hS rfl fun hS => qN <| qi ?_
   exact Vw _ _ ⟨VD, VE, VG, Vh, Vo, Vp, (qM (J6 + (1 : Int))), hS.to [0, 1, 2, 3] (by kernel_rfl) ⟨rfl, rfl, rfl, rfl, trivial⟩, VI, VJ, VK, hM⟩
  ·refine wp_exit ?_
   refine qK (qK (zi ?_))
   exact x1 (rs := []) hS rfl rfl (hret JU JZ J2 JO J3 J4 _ (qC hM) J8 Va J9 (hS.st.pick [0, 1, 2, 3] (by kernel_rfl)))
theorem y6 {H : zB} {F : List qj} {w : World} {R : Ending → World → Prop} {kr : (List Int) → Prop} {kp : Value → Prop} (hG : Gl H) (K : Nat) (JN : qg) (JP : List Int) (JO : Nat) (J6 : qj) (JV : Option Addr) (J0 : Option Addr) (J4 : Nat) (J7 : qj) (JR : Option Addr) (JW : Option Addr) (JY : Nat) (JT : qj) (JS : Option Addr) (JX : Option Addr) (JZ : Nat) (JU : qj) (J1 : Option Addr) (J5 : Nat) (Vh : zH J6 JO ([.pointer JV, .slice J0 JN.bytes_.Builder_.length J4, .pointer JR, .slice JW JN.headers_.Builder_.length JY, .pointer JS, .slice JX JN.names_.length JZ]) 85) (Ve : JV = none ∨ JV = some ⟨JO, 0, none⟩) (Vi : zp 5 (ci .u8) 1 J0 JN.bytes_.Builder_ J4 J7) (Vf : JR = none ∨ JR = some ⟨JO, 2, none⟩) (Vj : zp 5 (ci .u8) 1 JW JN.headers_.Builder_ JY JT) (Vg : JS = none ∨ JS = some ⟨JO, 4, none⟩) (Vk : zp 5 (ci .u8) 1 JX JN.names_ JZ JU) (Vm : yT H [] F (ci .u64) J1 JP) (Vl : JP.length ≤ J5)
    (hS : St w H [J6, J7, JT, JU] F) (hm : (xF.m K JN JP).wp kr kp)
    (hret : ∀ (J2 : Option Addr) (J8 : Option Addr) (J9 : Nat) (JQ : (List Int)) (Vc : qj) (Vd : qj) (w : World), kr JQ → (J2 = none ∨ J2 = some ⟨JO, 0, none⟩) → (zp 5 (ci .u8) 1 J8 JQ J9 Vc) → (zH Vd JO ([.pointer J2, .slice J8 JQ.length J9, .pointer JR, .slice JW JN.headers_.Builder_.length JY, .pointer JS, .slice JX JN.names_.length JZ]) 85) → St w H [Vd, Vc, JT, JU] F → R (.returned (.tuple ⟨[]⟩)) w) :
    Calls Tryd.prog 35 ⟨[qp JO 0, .slice J1 JP.length J5]⟩ w R := by
 refine enter Tryd.func35 rfl Tryd.ntmps35 rfl hS fun a w hS => ?_
 have hM := hm; clear hm
 rw [xF.m] at hM
 refine zI <| sM hS rfl fun hS => sM hS rfl fun hS => ql hS rfl Tryd.call68 (xT hG K JN (8 : Int) JP JO J6 JV J0 J4 J7 JR JW JY JT JS JX JZ JU J1 J5 Vh Ve Vi Vf Vj Vg Vk (Vm.app _) Vl (hS.st.part 4 [0, 1, 2, 3] (by kernel_rfl)) (qf hM) (fun Vn Vo Vp J3 Va Vb w hM Vq Vr Vs hst => qk hS.ev hst.appF rfl fun hS => ?_))
 replace hS : Ss _ _ _ H [Vb, Va, JT, JU] F _ _ := hS
 refine qN ?_
 exact x1 (rs := []) hS rfl rfl (hret Vn Vo Vp J3 Va Vb _ (qC hM) Vq Vr Vs (hS.st.pick [0, 1, 2, 3] (by kernel_rfl)))
theorem xO {H : zB} {F : List qj} {w : World} {R : Ending → World → Prop} {kr : Int → Prop} {kp : Value → Prop} (hG : Gl H) (K : Nat) (JN : qg) (JO : Nat) (JS : qj) (JP : Option Addr) (JW : Option Addr) (JZ : Nat) (JT : qj) (JQ : Option Addr) (JX : Option Addr) (J0 : Nat) (JU : qj) (JR : Option Addr) (JY : Option Addr) (J1 : Nat) (JV : qj) (J2 : zH JS JO ([.pointer JP, .slice JW JN.bytes_.Builder_.length JZ, .pointer JQ, .slice JX JN.headers_.Builder_.length J0, .pointer JR, .slice JY JN.names_.length J1]) 85) (J5 : JP = none ∨ JP = some ⟨JO, 0, none⟩) (J8 : zp 5 (ci .u8) 1 JW JN.bytes_.Builder_ JZ JT) (J6 : JQ = none ∨ JQ = some ⟨JO, 2, none⟩) (J9 : zp 5 (ci .u8) 1 JX JN.headers_.Builder_ J0 JU) (J7 : JR = none ∨ JR = some ⟨JO, 4, none⟩) (Va : zp 5 (ci .u8) 1 JY JN.names_ J1 JV)
    (hS : St w H [JS, JT, JU, JV] F) (hm : (z1.m K JN).wp kr kp)
    (hret : ∀ (J3 : Int) (w : World), kr J3 → St w H [JS, JT, JU, JV] F → R (.returned (.int .i64 J3)) w) :
    Calls Tryd.prog 41 ⟨[qp JO 4]⟩ w R := by
 refine enter Tryd.func41 rfl Tryd.ntmps41 rfl hS fun a w hS => ?_
 have hM := hm; clear hm
 rw [z1.m] at hM
 refine qn <| sA hS rfl fun hS => qs <| qn <| sM hS rfl fun hS => sO hS (xm rfl) rfl fun hS => sO hS (qU rfl Tryd.runUnderlying81 rfl Tryd.sizeOf40 rfl) rfl fun hS => sO hS (zD 0 rfl J2 rfl rfl Tryd.isAgg40) rfl fun hS => sO hS (xz rfl Tryd.runUnderlying40) rfl fun hS => zO (v := Value.int .i64) (x0 := (JN.names_.length : Int)) hS (xK rfl) rfl fun J4 a w hz hS => ?_
 have hM := qO hz hM; clear hz
 refine qs <| wp_ret ?_
 exact qT (rs := [2]) hS rfl rfl (hret J4 _ (qC hM) (hS.st.pick [0, 1, 2, 3] (by kernel_rfl)))
theorem x8 {H : zB} {F : List qj} {w : World} {R : Ending → World → Prop} {kr : (Int × (List Int)) → Prop} {kp : Value → Prop} (hG : Gl H) (K : Nat) (JN : qg) (J6 : List UInt8) (JO : Nat) (Vb : qj) (JR : Option Addr) (JT : Option Addr) (JV : Nat) (JX : qj) (JS : Option Addr) (JU : Option Addr) (JW : Nat) (JY : qj) (J0 : Option Addr) (J1 : Option Addr) (J4 : Nat) (J5 : qj) (Vh : zH Vb JO ([.pointer JR, .slice JT JN.bytes_.Builder_.length JV, .pointer JS, .slice JU JN.headers_.Builder_.length JW, .pointer J0, .slice J1 JN.names_.length J4]) 85) (Vq : JR = none ∨ JR = some ⟨JO, 0, none⟩) (Vs : zp 5 (ci .u8) 1 JT JN.bytes_.Builder_ JV JX) (Vr : JS = none ∨ JS = some ⟨JO, 2, none⟩) (Vt : zp 5 (ci .u8) 1 JU JN.headers_.Builder_ JW JY) (Vf : J0 = none ∨ J0 = some ⟨JO, 4, none⟩) (Vj : zp 5 (ci .u8) 1 J1 JN.names_ J4 J5)
    (hS : St w H [Vb, JX, JY, J5] F) (hm : (zQ.m K JN J6).wp kr kp)
    (hret : ∀ (Vm : Int) (J3 : Option Addr) (J8 : Option Addr) (Va : Nat) (JP : (List Int)) (Vd : qj) (Ve : qj) (w : World), kr (Vm, JP) → (J3 = none ∨ J3 = some ⟨JO, 4, none⟩) → (zp 5 (ci .u8) 1 J8 JP Va Vd) → (zH Ve JO ([.pointer JR, .slice JT JN.bytes_.Builder_.length JV, .pointer JS, .slice JU JN.headers_.Builder_.length JW, .pointer J3, .slice J8 JP.length Va]) 85) → St w H [Ve, JX, JY, Vd] F → R (.returned (.tuple ⟨[.int .i64 Vm, .nilIface]⟩)) w) :
    Calls Tryd.prog 37 ⟨[qp JO 4, qr J6]⟩ w R := by
 refine enter Tryd.func37 rfl Tryd.ntmps37 rfl hS fun a w hS => ?_
 have hM := hm; clear hm
 rw [zQ.m] at hM
 refine qn <| sA hS rfl fun hS => sA hS rfl fun hS => qs <| qn <| sM hS rfl fun hS => ql hS rfl Tryd.call69 (Zn rfl rfl Vh Vf (hS.st.part 1 [0, 1, 2, 3] (by kernel_rfl)) (fun J2 Vc w Vg JQ hst => qk hS.ev hst.appF rfl fun hS => ?_))
 replace hS : Ss _ _ _ H [Vc, JX, JY, J5] F _ _ := hS
 replace JQ : zH Vc JO ([.pointer JR, .slice JT JN.bytes_.Builder_.length JV, .pointer JS, .slice JU JN.headers_.Builder_.length JW, .pointer J2, .slice J1 JN.names_.length J4]) 85 := JQ
 refine qs <| qn <| sM hS rfl fun hS => sM hS rfl fun hS => sO hS (xm rfl) rfl fun hS => sO hS (qU rfl Tryd.runUnderlying81 rfl Tryd.sizeOf40 rfl) rfl fun hS => sO hS (zD 0 rfl JQ rfl rfl Tryd.isAgg40) rfl fun hS => sM hS rfl fun hS => ?_
 obtain ⟨Vl, hM⟩ := qL hM
 refine Ye 3 hS rfl rfl Vj rfl Tryd.runUnderlying40 Tryd.runUnderlying9 X.el5 rfl Vl rfl fun JZ w J7 J9 Vn hz Vk hS => ?_
 have hM := qO hz hM; clear hz
 refine sO hS (xm rfl) rfl fun hS => sO hS (qU rfl Tryd.runUnderlying81 rfl Tryd.sizeOf40 rfl) rfl fun hS => y3 0 ([.pointer JR, .slice JT JN.bytes_.Builder_.length JV, .pointer JS, .slice JU JN.headers_.Builder_.length JW, .pointer J2, .slice J7 JZ.length J9]) hS rfl rfl JQ rfl rfl rfl rfl Tryd.sizeOf40 fun w Vo Vi hS => qs <| qn <| sM hS rfl fun hS => sO hS (yi rfl Tryd.runUnderlying9) rfl fun hS => zO (v := Value.int .i64) (x0 := (J6.length : Int)) hS (xK rfl) rfl fun Vp a w hz hS => ?_
 have hM := qO hz hM; clear hz
 refine sA hS rfl fun hS => qs <| wp_ret ?_
 exact qT (rs := [4, 5]) hS rfl rfl (hret Vp J2 J7 J9 JZ Vn Vo _ (qC hM) Vg Vk Vi (hS.st.pick [0, 1, 2, 3] (by kernel_rfl)))
theorem yL {H : zB} {F : List qj} {w : World} {R : Ending → World → Prop} {kr : (Int × (List Int)) → Prop} {kp : Value → Prop} (hG : Gl H) (K : Nat) (JN : qg) (Vc : List UInt8) (JO : Nat) (JZ : qj) (JS : Option Addr) (JU : Option Addr) (JX : Nat) (JQ : qj) (JT : Option Addr) (JV : Option Addr) (JY : Nat) (JR : qj) (JW : Option Addr) (J1 : Option Addr) (J2 : Nat) (J0 : qj) (J6 : zH JZ JO ([.pointer JS, .slice JU JN.bytes_.Builder_.length JX, .pointer JT, .slice JV JN.headers_.Builder_.length JY, .pointer JW, .slice J1 JN.names_.length J2]) 85) (J3 : JS = none ∨ JS = some ⟨JO, 0, none⟩) (J7 : zp 5 (ci .u8) 1 JU JN.bytes_.Builder_ JX JQ) (J4 : JT = none ∨ JT = some ⟨JO, 2, none⟩) (J8 : zp 5 (ci .u8) 1 JV JN.headers_.Builder_ JY JR) (J5 : JW = none ∨ JW = some ⟨JO, 4, none⟩) (J9 : zp 5 (ci .u8) 1 J1 JN.names_ J2 J0)
    (hS : St w H [JZ, JQ, JR, J0] F) (hm : (xZ.m K JN Vc).wp kr kp)
    (hret : ∀ (Vk : Int) (Va : Option Addr) (Vd : Option Addr) (Ve : Nat) (JP : (List Int)) (Vh : qj) (Vi : qj) (w : World), kr (Vk, JP) → (Va = none ∨ Va = some ⟨JO, 4, none⟩) → (zp 5 (ci .u8) 1 Vd JP Ve Vh) → (zH Vi JO ([.pointer JS, .slice JU JN.bytes_.Builder_.length JX, .pointer JT, .slice JV JN.headers_.Builder_.length JY, .pointer Va, .slice Vd JP.length Ve]) 85) → St w H [Vi, JQ, JR, Vh] F → R (.returned (.int .i64 Vk)) w) :
    Calls Tryd.prog 36 ⟨[qp JO 0, qr Vc]⟩ w R := by
 refine enter Tryd.func36 rfl Tryd.ntmps36 rfl hS fun a w hS => ?_
 have hM := hm; clear hm
 rw [xZ.m] at hM
 refine qn <| sA hS rfl fun hS => qs <| qn <| sM hS rfl fun hS => sO hS (xm rfl) rfl fun hS => sO hS (qU rfl Tryd.runUnderlying85 rfl Tryd.sizeOf81 rfl) rfl fun hS => ql hS rfl Tryd.call41 (xO hG K JN JO JZ JS JU JX JQ JT JV JY JR JW J1 J2 J0 J6 J3 J7 J4 J8 J5 J9 (hS.st.part 4 [0, 1, 2, 3] (by kernel_rfl)) (qf hM) (fun Vr w hM  hst => qk hS.ev hst.appF rfl fun hS => ?_))
 replace hS : Ss _ _ _ H [JZ, JQ, JR, J0] F _ _ := hS
 refine sA hS rfl fun hS => qs <| qn <| sM hS rfl fun hS => sO hS (xm rfl) rfl fun hS => sO hS (qU rfl Tryd.runUnderlying85 rfl Tryd.sizeOf81 rfl) rfl fun hS => sM hS rfl fun hS => ?_
 obtain ⟨Vj, hM⟩ := qL hM
 refine sO hS (Ya rfl rfl Vj) rfl fun hS => ql hS rfl Tryd.call37 (x8 hG K JN (Vc ++ ([0] : List UInt8)) JO JZ JS JU JX JQ JT JV JY JR JW J1 J2 J0 J6 J3 J7 J4 J8 J5 J9 (hS.st.part 4 [0, 1, 2, 3] (by kernel_rfl)) (qf hM) (fun Vs Vl Vm Vn Vb Vf Vg w hM Vo Vp Vq hst => qk hS.ev hst.appF rfl fun hS => ?_))
 replace hS : Ss _ _ _ H [Vg, JQ, JR, Vf] F _ _ := hS
 refine qs <| qn <| sM hS rfl fun hS => sA hS rfl fun hS => qs <| wp_ret ?_
 exact qT (rs := [4]) hS rfl rfl (hret Vr Vl Vm Vn Vb Vf Vg _ (qC hM) Vo Vp Vq (hS.st.pick [0, 1, 2, 3] (by kernel_rfl)))
theorem vB {H : zB} {F : List qj} {w : World} {R : Ending → World → Prop} {kr : (List UInt8) → Prop} {kp : Value → Prop} (hG : Gl H) (K : Nat) (JO : List UInt8) (JN : Int)
    (hS : St w H [] F) (hm : (strings_Repeat.m K JO JN).wp kr kp)
    (hret : ∀ (JP : List UInt8) (w : World), kr JP → St w H [] F → R (.returned (qr JP)) w) :
    Calls Tryd.prog 38 ⟨[qr JO, .int .i64 JN]⟩ w R := by
 have hM := hm; clear hm
 rw [strings_Repeat.m] at hM
 refine Y5 Tryd.strings_Repeat hS hM fun JQ w hM hS => ?_
 exact hret JQ _ (qC hM) (hS.pick [] (by kernel_rfl))
theorem xi {H : zB} {F : List qj} {w : World} {R : Ending → World → Prop} {kr : (Int × (List Int)) → Prop} {kp : Value → Prop} (hG : Gl H) (K : Nat) (JN : qg) (J6 : List UInt8) (JO : Nat) (Vb : qj) (JR : Option Addr) (JT : Option Addr) (JV : Nat) (JX : qj) (J0 : Option Addr) (J1 : Option Addr) (J4 : Nat) (J5 : qj) (JS : Option Addr) (JU : Option Addr) (JW : Nat) (JY : qj) (Vh : zH Vb JO ([.pointer JR, .slice JT JN.bytes_.Builder_.length JV, .pointer J0, .slice J1 JN.headers_.Builder_.length J4, .pointer JS, .slice JU JN.names_.length JW]) 85) (Vq : JR = none ∨ JR = some ⟨JO, 0, none⟩) (Vs : zp 5 (ci .u8) 1 JT JN.bytes_.Builder_ JV JX) (Vf : J0 = none ∨ J0 = some ⟨JO, 2, none⟩) (Vj : zp 5 (ci .u8) 1 J1 JN.headers_.Builder_ J4 J5) (Vr : JS = none ∨ JS = some ⟨JO, 4, none⟩) (Vt : zp 5 (ci .u8) 1 JU JN.names_ JW JY)
    (hS : St w H [Vb, JX, J5, JY] F) (hm : (zx.m K JN J6).wp kr kp)
    (hret : ∀ (Vm : Int) (J3 : Option Addr) (J8 : Option Addr) (Va : Nat) (JP : (List Int)) (Vd : qj) (Ve : qj) (w : World), kr (Vm, JP) → (J3 = none ∨ J3 = some ⟨JO, 2, none⟩) → (zp 5 (ci .u8) 1 J8 JP Va Vd) → (zH Ve JO ([.pointer JR, .slice JT JN.bytes_.Builder_.length JV, .pointer J3, .slice J8 JP.length Va, .pointer JS, .slice JU JN.names_.length JW]) 85) → St w H [Ve, JX, Vd, JY] F → R (.returned (.tuple ⟨[.int .i64 Vm, .nilIface]⟩)) w) :
    Calls Tryd.prog 37 ⟨[qp JO 2, qr J6]⟩ w R := by
 refine enter Tryd.func37 rfl Tryd.ntmps37 rfl hS fun a w hS => ?_
 have hM := hm; clear hm
 rw [zx.m] at hM
 refine qn <| sA hS rfl fun hS => sA hS rfl fun hS => qs <| qn <| sM hS rfl fun hS => ql hS rfl Tryd.call69 (Zm rfl rfl Vh Vf (hS.st.part 1 [0, 1, 2, 3] (by kernel_rfl)) (fun J2 Vc w Vg JQ hst => qk hS.ev hst.appF rfl fun hS => ?_))
 replace hS : Ss _ _ _ H [Vc, JX, J5, JY] F _ _ := hS
 replace JQ : zH Vc JO ([.pointer JR, .slice JT JN.bytes_.Builder_.length JV, .pointer J2, .slice J1 JN.headers_.Builder_.length J4, .pointer JS, .slice JU JN.names_.length JW]) 85 := JQ
 refine qs <| qn <| sM hS rfl fun hS => sM hS rfl fun hS => sO hS (xm rfl) rfl fun hS => sO hS (qU rfl Tryd.runUnderlying81 rfl Tryd.sizeOf40 rfl) rfl fun hS => sO hS (zD 0 rfl JQ rfl rfl Tryd.isAgg40) rfl fun hS => sM hS rfl fun hS => ?_
 obtain ⟨Vl, hM⟩ := qL hM
 refine Ye 2 hS rfl rfl Vj rfl Tryd.runUnderlying40 Tryd.runUnderlying9 X.el5 rfl Vl rfl fun JZ w J7 J9 Vn hz Vk hS => ?_
 have hM := qO hz hM; clear hz
 refine sO hS (xm rfl) rfl fun hS => sO hS (qU rfl Tryd.runUnderlying81 rfl Tryd.sizeOf40 rfl) rfl fun hS => y3 0 ([.pointer JR, .slice JT JN.bytes_.Builder_.length JV, .pointer J2, .slice J7 JZ.length J9, .pointer JS, .slice JU JN.names_.length JW]) hS rfl rfl JQ rfl rfl rfl rfl Tryd.sizeOf40 fun w Vo Vi hS => qs <| qn <| sM hS rfl fun hS => sO hS (yi rfl Tryd.runUnderlying9) rfl fun hS => zO (v := Value.int .i64) (x0 := (J6.length : Int)) hS (xK rfl) rfl fun Vp a w hz hS => ?_
 have hM := qO hz hM; clear hz
 refine sA hS rfl fun hS => qs <| wp_ret ?_
 exact qT (rs := [4, 5]) hS rfl rfl (hret Vp J2 J7 J9 JZ Vn Vo _ (qC hM) Vg Vk Vi (hS.st.pick [0, 1, 2, 3] (by kernel_rfl)))
theorem xN {H : zB} {F : List qj} {w : World} {R : Ending → World → Prop} {kr : Int → Prop} {kp : Value → Prop} (hG : Gl H) (K : Nat) (JN : qg) (JO : Nat) (JS : qj) (JP : Option Addr) (JW : Option Addr) (JZ : Nat) (JT : qj) (JQ : Option Addr) (JX : Option Addr) (J0 : Nat) (JU : qj) (JR : Option Addr) (JY : Option Addr) (J1 : Nat) (JV : qj) (J2 : zH JS JO ([.pointer JP, .slice JW JN.bytes_.Builder_.length JZ, .pointer JQ, .slice JX JN.headers_.Builder_.length J0, .pointer JR, .slice JY JN.names_.length J1]) 85) (J5 : JP = none ∨ JP = some ⟨JO, 0, none⟩) (J8 : zp 5 (ci .u8) 1 JW JN.bytes_.Builder_ JZ JT) (J6 : JQ = none ∨ JQ = some ⟨JO, 2, none⟩) (J9 : zp 5 (ci .u8) 1 JX JN.headers_.Builder_ J0 JU) (J7 : JR = none ∨ JR = some ⟨JO, 4, none⟩) (Va : zp 5 (ci .u8) 1 JY JN.names_ J1 JV)
    (hS : St w H [JS, JT, JU, JV] F) (hm : (zZ.m K JN).wp kr kp)
    (hret : ∀ (J3 : Int) (w : World), kr J3 → St w H [JS, JT, JU, JV] F → R (.returned (.int .i64 J3)) w) :
    Calls Tryd.prog 41 ⟨[qp JO 0]⟩ w R := by
 refine enter Tryd.func41 rfl Tryd.ntmps41 rfl hS fun a w hS => ?_
 have hM := hm; clear hm
 rw [zZ.m] at hM
 refine qn <| sA hS rfl fun hS => qs <| qn <| sM hS rfl fun hS => sO hS (xm rfl) rfl fun hS => sO hS (qU rfl Tryd.runUnderlying81 rfl Tryd.sizeOf40 rfl) rfl fun hS => sO hS (zD 0 rfl J2 rfl rfl Tryd.isAgg40) rfl fun hS => sO hS (xz rfl Tryd.runUnderlying40) rfl fun hS => zO (v := Value.int .i64) (x0 := (JN.bytes_.Builder_.length : Int)) hS (xK rfl) rfl fun J4 a w hz hS => ?_
 have hM := qO hz hM; clear hz
 refine qs <| wp_ret ?_
 exact qT (rs := [2]) hS rfl rfl (hret J4 _ (qC hM) (hS.st.pick [0, 1, 2, 3] (by kernel_rfl)))
theorem ym {H : zB} {F : List qj} {w : World} {R : Ending → World → Prop} {kr : (List Int) → Prop} {kp : Value → Prop} (hG : Gl H) (K : Nat) (JN : qg) (JP : Int) (JO : Nat) (Vb : qj) (J1 : Option Addr) (J2 : Option Addr) (J5 : Nat) (J6 : qj) (JS : Option Addr) (JU : Option Addr) (JW : Nat) (JY : qj) (JT : Option Addr) (JV : Option Addr) (JX : Nat) (JZ : qj) (Vh : zH Vb JO ([.pointer J1, .slice J2 JN.bytes_.Builder_.length J5, .pointer JS, .slice JU JN.headers_.Builder_.length JW, .pointer JT, .slice JV JN.names_.length JX]) 85) (Vf : J1 = none ∨ J1 = some ⟨JO, 0, none⟩) (Vj : zp 5 (ci .u8) 1 J2 JN.bytes_.Builder_ J5 J6) (Vp : JS = none ∨ JS = some ⟨JO, 2, none⟩) (Vr : zp 5 (ci .u8) 1 JU JN.headers_.Builder_ JW JY) (Vq : JT = none ∨ JT = some ⟨JO, 4, none⟩) (Vs : zp 5 (ci .u8) 1 JV JN.names_ JX JZ)
    (hS : St w H [Vb, J6, JY, JZ] F) (hm : (zW.m K JN JP).wp kr kp)
    (hret : ∀ (J4 : Option Addr) (J8 : Option Addr) (Va : Nat) (JQ : (List Int)) (Vd : qj) (Ve : qj) (w : World), kr JQ → (J4 = none ∨ J4 = some ⟨JO, 0, none⟩) → (zp 5 (ci .u8) 1 J8 JQ Va Vd) → (zH Ve JO ([.pointer J4, .slice J8 JQ.length Va, .pointer JS, .slice JU JN.headers_.Builder_.length JW, .pointer JT, .slice JV JN.names_.length JX]) 85) → St w H [Ve, Vd, JY, JZ] F → R (.returned (.nilIface)) w) :
    Calls Tryd.prog 73 ⟨[qp JO 0, .int .u8 JP]⟩ w R := by
 refine enter Tryd.func73 rfl Tryd.ntmps73 rfl hS fun a w hS => ?_
 have hM := hm; clear hm
 rw [zW.m] at hM
 refine qn <| sA hS rfl fun hS => qs <| qn <| sM hS rfl fun hS => ql hS rfl Tryd.call69 (jZ rfl rfl Vh Vf (hS.st.part 1 [0, 1, 2, 3] (by kernel_rfl)) (fun J3 Vc w Vg JR hst => qk hS.ev hst.appF rfl fun hS => ?_))
 replace hS : Ss _ _ _ H [Vc, J6, JY, JZ] F _ _ := hS
 replace JR : zH Vc JO ([.pointer J3, .slice J2 JN.bytes_.Builder_.length J5, .pointer JS, .slice JU JN.headers_.Builder_.length JW, .pointer JT, .slice JV JN.names_.length JX]) 85 := JR
 refine qs <| qn <| sM hS rfl fun hS => sM hS rfl fun hS => sO hS (xm rfl) rfl fun hS => sO hS (qU rfl Tryd.runUnderlying81 rfl Tryd.sizeOf40 rfl) rfl fun hS => sO hS (zD 0 rfl JR rfl rfl Tryd.isAgg40) rfl fun hS => sM hS rfl fun hS => vQ (g := (ci .u8)) ([JP] : List Int) [.int .u8 JP] hS Tryd.runUnderlying40 Tryd.sizeOf5 X.el5 rfl rfl rfl (by simp [Value.cells]) rfl rfl rfl rfl rfl fun w Vt Vu Vv Vk hS => ?_
 obtain ⟨Vm, hM⟩ := qL hM
 refine Xr (ys := ([JP] : List Int)) 2 hS rfl rfl Vj rfl (Vk.rd (i := 0) rfl) Tryd.runUnderlying40 Tryd.runUnderlying40 X.el5 (fun _ => rfl) rfl QE Vm rfl fun J0 w J7 J9 Vn hz Vl hS => ?_
 have hM := qO hz hM; clear hz
 refine sO hS (xm rfl) rfl fun hS => sO hS (qU rfl Tryd.runUnderlying81 rfl Tryd.sizeOf40 rfl) rfl fun hS => y3 1 ([.pointer J3, .slice J7 J0.length J9, .pointer JS, .slice JU JN.headers_.Builder_.length JW, .pointer JT, .slice JV JN.names_.length JX]) hS rfl rfl JR rfl rfl rfl rfl Tryd.sizeOf40 fun w Vo Vi hS => qs <| qn <| sA hS rfl fun hS => qs <| wp_ret ?_
 exact qT (rs := [4]) hS rfl rfl (hret J3 J7 J9 J0 Vn Vo _ (qC hM) Vg Vl Vi (hS.st.pick [1, 2, 3, 4] (by kernel_rfl)))
theorem jH {H : zB} {F : List qj} {w : World} {R : Ending → World → Prop} {kr : (Int × (List Int)) → Prop} {kp : Value → Prop} (hG : Gl H) (K : Nat) (JN : qg) (JO : Nat) (Vp : qj) (Vh : Option Addr) (Vl : Option Addr) (Vo : Nat) (Vq : qj) (JT : Option Addr) (JV : Option Addr) (JX : Nat) (JR : qj) (JU : Option Addr) (JW : Option Addr) (JY : Nat) (JS : qj) (Vy : zH Vp JO ([.pointer Vh, .slice Vl JN.bytes_.Builder_.length Vo, .pointer JT, .slice JV JN.headers_.Builder_.length JX, .pointer JU, .slice JW JN.names_.length JY]) 85) (Vx : Vh = none ∨ Vh = some ⟨JO, 0, none⟩) (VB : zp 5 (ci .u8) 1 Vl JN.bytes_.Builder_ Vo Vq) (Va : JT = none ∨ JT = some ⟨JO, 2, none⟩) (Ve : zp 5 (ci .u8) 1 JV JN.headers_.Builder_ JX JR) (Vb : JU = none ∨ JU = some ⟨JO, 4, none⟩) (Vf : zp 5 (ci .u8) 1 JW JN.names_ JY JS)
    (hS : St w H [Vp, Vq, JR, JS] F) (hm : (zJ.m K JN).wp kr kp)
    (hret : ∀ (VE : Int) (Vm : Option Addr) (Vr : Option Addr) (Vs : Nat) (J0 : (List Int)) (Vv : qj) (Vw : qj) (w : World), kr (VE, J0) → (Vm = none ∨ Vm = some ⟨JO, 0, none⟩) → (zp 5 (ci .u8) 1 Vr J0 Vs Vv) → (zH Vw JO ([.pointer Vm, .slice Vr J0.length Vs, .pointer JT, .slice JV JN.headers_.Builder_.length JX, .pointer JU, .slice JW JN.names_.length JY]) 85) → St w H [Vw, Vv, JR, JS] F → R (.returned (.int .i64 VE)) w) :
    Calls Tryd.prog 39 ⟨[qp JO 0]⟩ w R := by
 refine enter Tryd.func39 rfl Tryd.ntmps39 rfl hS fun a w hS => ?_
 have hM := hm; clear hm
 rw [zJ.m] at hM
 refine qn <| sA hS rfl fun hS => qs <| zq (fun a w => ∃ (J4 : Option Addr) (J8 : Option Addr) (J9 : Nat) (JQ : (List Int)) (J6 : qj) (J7 : qj), Ss 21 [] [(0, qp JO 0)] H [J7, J6, JR, JS] F a w ∧ (J4 = none ∨ J4 = some ⟨JO, 0, none⟩) ∧ (zp 5 (ci .u8) 1 J8 JQ J9 J6) ∧ (zH J7 JO ([.pointer J4, .slice J8 JQ.length J9, .pointer JT, .slice JV JN.headers_.Builder_.length JX, .pointer JU, .slice JW JN.names_.length JY]) 85) ∧ (zJ.j2 K JN JQ).wp kr kp) (fun VO VA => ?_) ?_
 ·refine yp ?_
  refine zz (fun VD a w => ∃ (JZ : Option Addr) (J3 : Option Addr) (J5 : Nat) (JP : (List Int)) (J1 : qj) (J2 : qj), Ss 21 [] [(0, qp JO 0)] H [J2, J1, JR, JS] F a w ∧ (JZ = none ∨ JZ = some ⟨JO, 0, none⟩) ∧ (zp 5 (ci .u8) 1 J3 JP J5 J1) ∧ (zH J2 JO ([.pointer JZ, .slice J3 JP.length J5, .pointer JT, .slice JV JN.headers_.Builder_.length JX, .pointer JU, .slice JW JN.names_.length JY]) 85) ∧ (zJ.l1 K JN VD JP).wp kr kp) K ?_ ?_ ?_
  ·exact ⟨Vh, Vl, Vo, JN.bytes_.Builder_, Vq, Vp, hS.to [0, 1, 2, 3] (by kernel_rfl) ⟨rfl, trivial⟩, Vx, VB, Vy, hM⟩
  ·intro a w hI; obtain ⟨_, _, _, _, _, _, _, _, _, _, hM⟩ := hI; exact zA hM
  ·intro VD a w hI VN Vz
   obtain ⟨JZ, J3, J5, JP, J1, J2, hS, Vc, Vg, Vd, hM⟩ := hI
   rw [zJ.l1] at hM
   refine wp_seq <| qn <| sM hS rfl fun hS => sO hS (xm rfl) rfl fun hS => sO hS (qU rfl Tryd.runUnderlying85 rfl Tryd.sizeOf83 rfl) rfl fun hS => sO hS (qU rfl Tryd.runUnderlying83 rfl Tryd.sizeOf81 rfl) rfl fun hS => ql hS rfl Tryd.call41 (xN hG K (qg.mk (qc.mk JP) JN.headers_ JN.names_) JO J2 JZ J3 J5 J1 JT JV JX JR JU JW JY JS Vd Vc Vg Va Ve Vb Vf (hS.st.part 4 [0, 1, 2, 3] (by kernel_rfl)) (qf hM) (fun VP w hM  hst => qk hS.ev hst.appF rfl fun hS => ?_))
   replace hS : Ss _ _ _ H [J2, J1, JR, JS] F _ _ := hS
   refine sO hS (rem rfl rfl rfl) rfl fun hS => sB hS rfl fun hS => qs <| qI hS rfl hM (fun VC hM => ?_) (fun VC hM => ?_)
   ·refine wp_skip ?_
    refine qi <| yp <| zI <| sM hS rfl fun hS => sO hS (xm rfl) rfl fun hS => sO hS (qU rfl Tryd.runUnderlying85 rfl Tryd.sizeOf83 rfl) rfl fun hS => sO hS (qU rfl Tryd.runUnderlying83 rfl Tryd.sizeOf81 rfl) rfl fun hS => ql hS rfl Tryd.call73 (ym hG K (qg.mk (qc.mk JP) JN.headers_ JN.names_) (0 : Int) JO J2 JZ J3 J5 J1 JT JV JX JR JU JW JY JS Vd Vc Vg Va Ve Vb Vf (hS.st.part 4 [0, 1, 2, 3] (by kernel_rfl)) (qf hM) (fun VF VG VH Vn Vt Vu w hM VI VJ VK hst => qk hS.ev hst.appF rfl fun hS => ?_))
    replace hS : Ss _ _ _ H [Vu, Vt, JR, JS] F _ _ := hS
    refine qN <| xr (qi ?_)
    exact Vz _ _ ⟨VF, VG, VH, Vn, Vt, Vu, hS.to [0, 1, 2, 3] (by kernel_rfl) ⟨rfl, trivial⟩, VI, VJ, VK, hM⟩
   ·refine wp_exit ?_
    refine qK (qK (zi (qi ?_)))
    exact VA _ _ ⟨JZ, J3, J5, JP, J1, J2, hS.to [0, 1, 2, 3] (by kernel_rfl) ⟨rfl, trivial⟩, Vc, Vg, Vd, hM⟩
 ·intro a w hI
  obtain ⟨J4, J8, J9, JQ, J6, J7, hS, Vi, Vk, Vj, hM⟩ := hI
  rw [zJ.j2] at hM
  refine qn <| sM hS rfl fun hS => sO hS (xm rfl) rfl fun hS => sO hS (qU rfl Tryd.runUnderlying85 rfl Tryd.sizeOf83 rfl) rfl fun hS => sO hS (qU rfl Tryd.runUnderlying83 rfl Tryd.sizeOf81 rfl) rfl fun hS => ql hS rfl Tryd.call41 (xN hG K (qg.mk (qc.mk JQ) JN.headers_ JN.names_) JO J7 J4 J8 J9 J6 JT JV JX JR JU JW JY JS Vj Vi Vk Va Ve Vb Vf (hS.st.part 4 [0, 1, 2, 3] (by kernel_rfl)) (qf hM) (fun VM w hM  hst => qk hS.ev hst.appF rfl fun hS => ?_))
  replace hS : Ss _ _ _ H [J7, J6, JR, JS] F _ _ := hS
  refine sB hS rfl fun hS => zO (v := Value.int .i64) (x0 := (qM ((64 : Int) + VM))) hS (xK rfl) rfl fun VL a w hz hS => ?_
  have hM := qO hz hM; clear hz
  refine qs <| wp_ret ?_
  exact qT (rs := [2]) hS rfl rfl (hret VL J4 J8 J9 JQ J6 J7 _ (qC hM) Vi Vk Vj (hS.st.pick [0, 1, 2, 3] (by kernel_rfl)))
theorem yu {H : zB} {F : List qj} {w : World} {R : Ending → World → Prop} {kr : (List Int) → Prop} {kp : Value → Prop} (hG : Gl H) (K : Nat) (JN : qg) (JO : Int) (JQ : List Int) (JP : Nat) (Vd : qj) (JU : Option Addr) (J0 : Option Addr) (J3 : Nat) (JS : qj) (J7 : Option Addr) (J8 : Option Addr) (Vb : Nat) (Ve : qj) (JV : Option Addr) (J1 : Option Addr) (J4 : Nat) (JT : qj) (J9 : Option Addr) (Vc : Nat) (Vv : zH Vd JP ([.pointer JU, .slice J0 JN.bytes_.Builder_.length J3, .pointer J7, .slice J8 JN.headers_.Builder_.length Vb, .pointer JV, .slice J1 JN.names_.length J4]) 85) (Vs : JU = none ∨ JU = some ⟨JP, 0, none⟩) (Vx : zp 5 (ci .u8) 1 J0 JN.bytes_.Builder_ J3 JS) (Vt : J7 = none ∨ J7 = some ⟨JP, 2, none⟩) (Vy : zp 5 (ci .u8) 1 J8 JN.headers_.Builder_ Vb Ve) (Vu : JV = none ∨ JV = some ⟨JP, 4, none⟩) (Vz : zp 5 (ci .u8) 1 J1 JN.names_ J4 JT) (Vj : yT H [] F (ci .u64) J9 JQ) (VJ : JQ.length ≤ Vc)
    (hS : St w H [Vd, JS, Ve, JT] F) (hm : (zk.m K JN JO JQ).wp kr kp)
    (hret : ∀ (Va : Option Addr) (Vl : Option Addr) (Vm : Nat) (JZ : (List Int)) (Vp : qj) (Vq : qj) (w : World), kr JZ → (Va = none ∨ Va = some ⟨JP, 2, none⟩) → (zp 5 (ci .u8) 1 Vl JZ Vm Vp) → (zH Vq JP ([.pointer JU, .slice J0 JN.bytes_.Builder_.length J3, .pointer Va, .slice Vl JZ.length Vm, .pointer JV, .slice J1 JN.names_.length J4]) 85) → St w H [Vq, JS, Vp, JT] F → R (.returned (.tuple ⟨[]⟩)) w) :
    Calls Tryd.prog 68 ⟨[qp JP 2, .int .i64 JO, .slice J9 JQ.length Vc]⟩ w R := by
 refine enter Tryd.func68 rfl Tryd.ntmps68 rfl hS fun a w hS => ?_
 have hM := hm; clear hm
 rw [zk.m] at hM
 refine qn <| sM hS rfl fun hS => sO hS (xz rfl Tryd.runUnderlying73) rfl fun hS => sM hS rfl fun hS => qs <| yp <| zz (fun Vr a w => ∃ (JW : Option Addr) (J2 : Option Addr) (J5 : Nat) (JR : (List Int)) (JX : qj) (JY : qj) (J6 : Int), Ss 28 [] [(0, qp JP 2), (1, .int .i64 JO), (10, .slice J9 JQ.length Vc), (11, .int .i64 (JQ.length : Int)), (12, .int .i64 J6)] H [JY, JS, JX, JT] F a w ∧ (JW = none ∨ JW = some ⟨JP, 2, none⟩) ∧ (zp 5 (ci .u8) 1 J2 JR J5 JX) ∧ (zH JY JP ([.pointer JU, .slice J0 JN.bytes_.Builder_.length J3, .pointer JW, .slice J2 JR.length J5, .pointer JV, .slice J1 JN.names_.length J4]) 85) ∧ (zk.l1 K JN JO JQ Vr JR J6).wp kr kp) K ?_ ?_ ?_
 ·exact ⟨J7, J8, Vb, JN.headers_.Builder_, Ve, Vd, (0 : Int), hS.to [0, 1, 2, 3] (by kernel_rfl) ⟨rfl, rfl, rfl, rfl, rfl, trivial⟩, Vt, Vy, Vv, hM⟩
 ·intro a w hI; obtain ⟨_, _, _, _, _, _, _, _, _, _, _, hM⟩ := hI; exact zA hM
 ·intro Vr a w hI VK Vw
  obtain ⟨JW, J2, J5, JR, JX, JY, J6, hS, Vf, Vh, Vg, hM⟩ := hI
  rw [zk.l1] at hM
  refine qn <| sB hS rfl fun hS => qs <| wp_seq <| qI hS rfl hM (fun VA hM => ?_) (fun VA hM => ?_)
  ·refine wp_skip ?_
   refine qi <| wp_seq <| yp <| wp_seq <| zI ?_
   obtain ⟨Vi, hM⟩ := qL hM
   refine sO hS (vS rfl rfl Tryd.runUnderlying73 Tryd.sizeOf23 Vj.wk (fun _ => rfl) rfl Vi) rfl fun hS => sO hS (uP rfl Vj.wk (fun _ => rfl) Vi rfl Tryd.isAgg23) rfl fun hS => zO (v := Value.int .u64) (x0 := (rd JQ J6)) hS (xK rfl) rfl fun VB a w hz hS => ?_
   have hM := qO hz hM; clear hz
   refine qs <| qn <| sM hS rfl fun hS => sM hS rfl fun hS => ql hS rfl Tryd.call85 (yn hG K VB JO (hS.st.part 0 [0, 1, 2, 3] (by kernel_rfl)) (qf hM) (fun VI VL w hM  hst => qk hS.ev hst.appF rfl fun hS => ?_))
   replace hS : Ss _ _ _ H [JY, JS, JX, JT] F _ _ := hS
   refine sM hS rfl fun hS => sO hS (ex rfl rfl) rfl fun hS => sO hS (ex rfl rfl) rfl fun hS => sA hS rfl fun hS => sA hS rfl fun hS => qs <| zI <| sM hS rfl fun hS => sO hS (xm rfl) rfl fun hS => sO hS (qU rfl Tryd.runUnderlying83 rfl Tryd.sizeOf81 rfl) rfl fun hS => sM hS rfl fun hS => ql hS rfl Tryd.call37 (xi hG K (qg.mk JN.bytes_ (qc.mk JR) JN.names_) VI JP JY JU J0 J3 JS JW J2 J5 JX JV J1 J4 JT Vg Vs Vx Vf Vh Vu Vz (hS.st.part 4 [0, 1, 2, 3] (by kernel_rfl)) (qf hM) (fun VM VC VD VE Vk Vn Vo w hM VF VG VH hst => qk hS.ev hst.appF rfl fun hS => ?_))
   replace hS : Ss _ _ _ H [Vo, JS, Vn, JT] F _ _ := hS
   refine qN <| xr (qi ?_)
   refine zI <| sB hS rfl fun hS => sM hS rfl fun hS => qN <| qi ?_
   exact Vw _ _ ⟨VC, VD, VE, Vk, Vn, Vo, (qM (J6 + (1 : Int))), hS.to [0, 1, 2, 3] (by kernel_rfl) ⟨rfl, rfl, rfl, rfl, rfl, trivial⟩, VF, VG, VH, hM⟩
  ·refine wp_exit ?_
   refine qK (qK (zi ?_))
   exact x1 (rs := []) hS rfl rfl (hret JW J2 J5 JR JX JY _ (qC hM) Vf Vh Vg (hS.st.pick [0, 1, 2, 3] (by kernel_rfl)))
theorem yN {H : zB} {F : List qj} {w : World} {R : Ending → World → Prop} {kr : (List Int) → Prop} {kp : Value → Prop} (hG : Gl H) (K : Nat) (JN : qg) (JP : List Int) (JO : Nat) (Vd : qj) (JR : Option Addr) (JX : Option Addr) (J0 : Nat) (JU : qj) (J7 : Option Addr) (J8 : Option Addr) (Vb : Nat) (Ve : qj) (JS : Option Addr) (JY : Option Addr) (J1 : Nat) (JV : qj) (J9 : Option Addr) (Vc : Nat) (Vw : zH Vd JO ([.pointer JR, .slice JX JN.bytes_.Builder_.length J0, .pointer J7, .slice J8 JN.headers_.Builder_.length Vb, .pointer JS, .slice JY JN.names_.length J1]) 85) (Vt : JR = none ∨ JR = some ⟨JO, 0, none⟩) (Vy : zp 5 (ci .u8) 1 JX JN.bytes_.Builder_ J0 JU) (Vu : J7 = none ∨ J7 = some ⟨JO, 2, none⟩) (Vz : zp 5 (ci .u8) 1 J8 JN.headers_.Builder_ Vb Ve) (Vv : JS = none ∨ JS = some ⟨JO, 4, none⟩) (VA : zp 5 (ci .u8) 1 JY JN.names_ J1 JV) (Vk : yT H [] F (ci .i64) J9 JP) (VL : JP.length ≤ Vc)
    (hS : St w H [Vd, JU, Ve, JV] F) (hm : (zu.m K JN JP).wp kr kp)
    (hret : ∀ (Va : Option Addr) (Vm : Option Addr) (Vn : Nat) (JW : (List Int)) (Vq : qj) (Vr : qj) (w : World), kr JW → (Va = none ∨ Va = some ⟨JO, 2, none⟩) → (zp 5 (ci .u8) 1 Vm JW Vn Vq) → (zH Vr JO ([.pointer JR, .slice JX JN.bytes_.Builder_.length J0, .pointer Va, .slice Vm JW.length Vn, .pointer JS, .slice JY JN.names_.length J1]) 85) → St w H [Vr, JU, Vq, JV] F → R (.returned (.tuple ⟨[]⟩)) w) :
    Calls Tryd.prog 34 ⟨[qp JO 2, .slice J9 JP.length Vc]⟩ w R := by
 refine enter Tryd.func34 rfl Tryd.ntmps34 rfl hS fun a w hS => ?_
 have hM := hm; clear hm
 rw [zu.m] at hM
 refine qn <| sM hS rfl fun hS => sO hS (xz rfl Tryd.runUnderlying65) rfl fun hS => sM hS rfl fun hS => qs <| yp <| zz (fun Vs a w => ∃ (JT : Option Addr) (JZ : Option Addr) (J2 : Nat) (JQ : (List Int)) (J3 : qj) (J4 : qj) (J5 : Int), Ss 18 [] [(0, qp JO 2), (6, .slice J9 JP.length Vc), (7, .int .i64 (JP.length : Int)), (8, .int .i64 J5)] H [J4, JU, J3, JV] F a w ∧ (JT = none ∨ JT = some ⟨JO, 2, none⟩) ∧ (zp 5 (ci .u8) 1 JZ JQ J2 J3) ∧ (zH J4 JO ([.pointer JR, .slice JX JN.bytes_.Builder_.length J0, .pointer JT, .slice JZ JQ.length J2, .pointer JS, .slice JY JN.names_.length J1]) 85) ∧ (zu.l1 K JN JP Vs JQ J5).wp kr kp) K ?_ ?_ ?_
 ·exact ⟨J7, J8, Vb, JN.headers_.Builder_, Ve, Vd, (0 : Int), hS.to [0, 1, 2, 3] (by kernel_rfl) ⟨rfl, rfl, rfl, rfl, trivial⟩, Vu, Vz, Vw, hM⟩
 ·intro a w hI; obtain ⟨_, _, _, _, _, _, _, _, _, _, _, hM⟩ := hI; exact zA hM
 ·intro Vs a w hI VM Vx
  obtain ⟨JT, JZ, J2, JQ, J3, J4, J5, hS, Vf, Vh, Vg, hM⟩ := hI
  rw [zu.l1] at hM
  refine qn <| sB hS rfl fun hS => qs <| wp_seq <| qI hS rfl hM (fun VB hM => ?_) (fun VB hM => ?_)
  ·refine wp_skip ?_
   refine qi <| wp_seq <| yp <| wp_seq <| zI ?_
   obtain ⟨Vj, hM⟩ := qL hM
   refine sO hS (vS rfl rfl Tryd.runUnderlying65 Tryd.sizeOf3 Vk.wk (fun _ => rfl) rfl Vj) rfl fun hS => sO hS (uP rfl Vk.wk (fun _ => rfl) Vj rfl Tryd.isAgg3) rfl fun hS => zO (v := Value.int .i64) (x0 := (rd JP J5)) hS (xK rfl) rfl fun J6 a w hz hS => ?_
   have hM := qO hz hM; clear hz
   refine qs <| zI <| sM hS rfl fun hS => sM hS rfl fun hS => sO hS (yM rfl Tryd.runUnderlying3 Tryd.runUnderlying23) rfl fun hS => vQ (g := (ci .u64)) ([(wr .u64 J6)] : List Int) [.int .u64 (wr .u64 J6)] hS Tryd.runUnderlying73 Tryd.sizeOf23 X.el23 rfl rfl rfl (by simp [Value.cells]) rfl rfl rfl rfl rfl fun w VC VF VH Vi hS => ql hS rfl Tryd.call68 (yu hG K (qg.mk JN.bytes_ (qc.mk JQ) JN.names_) (4 : Int) ([(wr .u64 J6)] : List Int) JO J4 JR JX J0 JU JT JZ J2 J3 JS JY J1 JV VC VF Vg Vt Vy Vf Vh Vv VA (Vi.rdF (i := 0) rfl) (Vi.cap (fun _ => rfl) rfl) (hS.st.part 4 [1, 2, 3, 4, 0] (by kernel_rfl)) (qf hM) (fun VD VE VG Vl Vo Vp w hM VI VJ VK hst => qk hS.ev hst.appF rfl fun hS => ?_))
   replace hS : Ss _ _ _ H [Vp, JU, Vo, JV, VH] F _ _ := hS
   refine qN <| xr (qi ?_)
   refine zI <| sB hS rfl fun hS => sM hS rfl fun hS => qN <| qi ?_
   exact Vx _ _ ⟨VD, VE, VG, Vl, Vo, Vp, (qM (J5 + (1 : Int))), hS.to [0, 1, 2, 3] (by kernel_rfl) ⟨rfl, rfl, rfl, rfl, trivial⟩, VI, VJ, VK, hM⟩
  ·refine wp_exit ?_
   refine qK (qK (zi ?_))
   exact x1 (rs := []) hS rfl rfl (hret JT JZ J2 JQ J3 J4 _ (qC hM) Vf Vh Vg (hS.st.pick [0, 1, 2, 3] (by kernel_rfl)))
theorem yO {H : zB} {F : List qj} {w : World} {R : Ending → World → Prop} {kr : (List Int) → Prop} {kp : Value → Prop} (hG : Gl H) (K : Nat) (JN : qg) (JP : List Int) (JO : Nat) (J5 : qj) (JR : Option Addr) (JV : Option Addr) (JY : Nat) (JT : qj) (JW : Option Addr) (J0 : Option Addr) (J3 : Nat) (J6 : qj) (JS : Option Addr) (JX : Option Addr) (JZ : Nat) (JU : qj) (J1 : Option Addr) (J4 : Nat) (Vh : zH J5 JO ([.pointer JR, .slice JV JN.bytes_.Builder_.length JY, .pointer JW, .slice J0 JN.headers_.Builder_.length J3, .pointer JS, .slice JX JN.names_.length JZ]) 85) (Ve : JR = none ∨ JR = some ⟨JO, 0, none⟩) (Vi : zp 5 (ci .u8) 1 JV JN.bytes_.Builder_ JY JT) (Vf : JW = none ∨ JW = some ⟨JO, 2, none⟩) (Vj : zp 5 (ci .u8) 1 J0 JN.headers_.Builder_ J3 J6) (Vg : JS = none ∨ JS = some ⟨JO, 4, none⟩) (Vk : zp 5 (ci .u8) 1 JX JN.names_ JZ JU) (Vm : yT H [] F (ci .u64) J1 JP) (Vl : JP.length ≤ J4)
    (hS : St w H [J5, JT, J6, JU] F) (hm : (xJ.m K JN JP).wp kr kp)
    (hret : ∀ (J2 : Option Addr) (J8 : Option Addr) (J9 : Nat) (JQ : (List Int)) (Vc : qj) (Vd : qj) (w : World), kr JQ → (J2 = none ∨ J2 = some ⟨JO, 2, none⟩) → (zp 5 (ci .u8) 1 J8 JQ J9 Vc) → (zH Vd JO ([.pointer JR, .slice JV JN.bytes_.Builder_.length JY, .pointer J2, .slice J8 JQ.length J9, .pointer JS, .slice JX JN.names_.length JZ]) 85) → St w H [Vd, JT, Vc, JU] F → R (.returned (.tuple ⟨[]⟩)) w) :
    Calls Tryd.prog 35 ⟨[qp JO 2, .slice J1 JP.length J4]⟩ w R := by
 refine enter Tryd.func35 rfl Tryd.ntmps35 rfl hS fun a w hS => ?_
 have hM := hm; clear hm
 rw [xJ.m] at hM
 refine zI <| sM hS rfl fun hS => sM hS rfl fun hS => ql hS rfl Tryd.call68 (yu hG K JN (8 : Int) JP JO J5 JR JV JY JT JW J0 J3 J6 JS JX JZ JU J1 J4 Vh Ve Vi Vf Vj Vg Vk (Vm.app _) Vl (hS.st.part 4 [0, 1, 2, 3] (by kernel_rfl)) (qf hM) (fun Vn Vo Vp J7 Va Vb w hM Vq Vr Vs hst => qk hS.ev hst.appF rfl fun hS => ?_))
 replace hS : Ss _ _ _ H [Vb, JT, Va, JU] F _ _ := hS
 refine qN ?_
 exact x1 (rs := []) hS rfl rfl (hret Vn Vo Vp J7 Va Vb _ (qC hM) Vq Vr Vs (hS.st.pick [0, 1, 2, 3] (by kernel_rfl)))
theorem yX {H : zB} {F : List qj} {w : World} {R : Ending → World → Prop} {kr : (List Int) → Prop} {kp : Value → Prop} (hG : Gl H) (K : Nat) (JT : qg) (JR : Int) (JN : qa) (JQ : Int) (JP : Int) (JO : Nat) (Vm : qj) (JX : Option Addr) (JZ : Option Addr) (J1 : Nat) (JU : qj) (J8 : Option Addr) (Vj : Option Addr) (Vl : Nat) (Vn : qj) (JY : Option Addr) (J0 : Option Addr) (J2 : Nat) (JV : qj) (VL : zH Vm JO ([.pointer JX, .slice JZ JT.bytes_.Builder_.length J1, .pointer J8, .slice Vj JT.headers_.Builder_.length Vl, .pointer JY, .slice J0 JT.names_.length J2]) 85) (J4 : JX = none ∨ JX = some ⟨JO, 0, none⟩) (J6 : zp 5 (ci .u8) 1 JZ JT.bytes_.Builder_ J1 JU) (VK : J8 = none ∨ J8 = some ⟨JO, 2, none⟩) (VM : zp 5 (ci .u8) 1 Vj JT.headers_.Builder_ Vl Vn) (J5 : JY = none ∨ JY = some ⟨JO, 4, none⟩) (J7 : zp 5 (ci .u8) 1 J0 JT.names_ J2 JV)
    (hS : St w H [Vm, JU, Vn, JV] F) (hm : (x4.m K JT JR JN JQ JP).wp kr kp)
    (hret : ∀ (Vk : Option Addr) (Vx : Option Addr) (Vy : Nat) (J3 : (List Int)) (VI : qj) (VJ : qj) (w : World), kr J3 → (Vk = none ∨ Vk = some ⟨JO, 2, none⟩) → (zp 5 (ci .u8) 1 Vx J3 Vy VI) → (zH VJ JO ([.pointer JX, .slice JZ JT.bytes_.Builder_.length J1, .pointer Vk, .slice Vx J3.length Vy, .pointer JY, .slice J0 JT.names_.length J2]) 85) → St w H [VJ, JU, VI, JV] F → R (.returned (.tuple ⟨[]⟩)) w) :
    Calls Tryd.prog 40 ⟨[qp JO 0, .int .i64 JR, .agg ⟨[qr JN.Name_, .int .i64 JN.Type_, .int .u64 JN.Flags_, .int .u64 JN.Addr_, qr JN.Data_, .int .i64 JN.Size_, .int .i64 JN.Link_, .int .i64 JN.Info_, .int .u64 JN.Align_, .int .u64 JN.Each_]⟩, .int .i64 JQ, .int .i64 JP]⟩ w R := by
 refine enter Tryd.func40 rfl Tryd.ntmps40 rfl hS fun a w hS => ?_
 have hM := hm; clear hm
 rw [x4.m] at hM
 refine qn <| bx ([qr JN.Name_, .int .i64 JN.Type_, .int .u64 JN.Flags_, .int .u64 JN.Addr_, qr JN.Data_, .int .i64 JN.Size_, .int .i64 JN.Link_, .int .i64 JN.Info_, .int .u64 JN.Align_, .int .u64 JN.Each_]) hS rfl rfl rfl fun w JS Vh JW hS => qs <| wp_seq <| qR (vals := [some (qp JO 0), some (qp JO 0), some (qp JO 2), some (.int .i64 JR), some (qp JS 1), some (.int .i64 JN.Type_), none, none]) hS xe rfl ?_
 intro l w ho hcl hA hst
 refine yA hA hst ho hcl zU xf 6 [0, 1, 2, 3, 4, 5] rfl rfl rfl rfl rfl (by exact ⟨nM rfl, nQ rfl (by exact qH (xm rfl) rfl), nQ rfl (by exact qH (qU rfl Tryd.runUnderlying85 rfl Tryd.sizeOf83 rfl) rfl), nM rfl, nQ rfl (by exact qH (qU rfl Tryd.runUnderlying43 rfl Tryd.sizeOf3 rfl) rfl), nQ rfl (by exact qH (zD 0 rfl JW rfl rfl Tryd.isAgg3) rfl), trivial⟩) fun D l a w ho hcl hav hpre hm hE hk hA hst => ?_
 have hS := (Ss.mk hE hst).env2 (e' := [(13, .int .i64 JR), (15, .int .i64 JN.Type_)]) ⟨rfl, rfl, trivial⟩
 refine qy rfl <| vQ (g := (ci .i64)) ([JR, JN.Type_] : List Int) [.int .i64 JR, .int .i64 JN.Type_] hS Tryd.runUnderlying65 Tryd.sizeOf3 X.el3 rfl rfl rfl (by simp [Value.cells]) rfl rfl rfl rfl rfl fun w J9 Vd Vi Vp hS => qs ?_
 replace hst := hS.st
 obtain ⟨hcl, hmust, hav2, hA⟩ := dn (vals' := [some (qp JO 0), some (qp JO 0), some (qp JO 2), some (.int .i64 JR), some (qp JS 1), some (.int .i64 JN.Type_), some (.slice J9 ([JR, JN.Type_] : List Int).length Vd), none]) 6 [(3, 6), (5, 6), (4, 5)] hA hcl hav hm hpre hk rfl rfl rfl rfl rfl rfl rfl
 clear hm hav
 refine yA hA hst ho hcl hav2 hmust 7 [0, 1, 2] rfl rfl rfl rfl rfl (by exact ⟨nM rfl, nQ rfl (by exact qH (xm rfl) rfl), nQ rfl (by exact qH (qU rfl Tryd.runUnderlying85 rfl Tryd.sizeOf83 rfl) rfl), trivial⟩) fun D l a w ho hcl hav hpre hm hE hk hA hst => ?_
 have hS := (Ss.mk hE hst).env2 (e' := [(12, qp JO 2), (16, .slice J9 ([JR, JN.Type_] : List Int).length Vd)]) ⟨rfl, rfl, trivial⟩
 refine qy rfl <| ql hS rfl Tryd.call34 (yN hG K JT ([JR, JN.Type_] : List Int) JO Vm JX JZ J1 JU J8 Vj Vl Vn JY J0 J2 JV J9 Vd VL J4 J6 VK VM J5 J7 (Vp.rdF (i := 0) rfl) (Vp.cap (fun _ => rfl) rfl) (hS.st.part 4 [2, 3, 4, 5, 0, 1] (by kernel_rfl)) (qf hM) (fun VN VO VV Vt Vz VA w hM V0 V1 V2 hst => qk hS.ev hst.appF rfl fun hS => ?_))
 replace hS : Ss _ _ _ H [VA, JU, Vz, JV, Vi, Vh] F _ _ := hS
 refine qs ?_
 replace hst := hS.st
 obtain ⟨hcl, hmust, hav2, hA⟩ := dn (vals' := [some (qp JO 0), some (qp JO 0), some (qp JO 2), some (.int .i64 JR), some (qp JS 1), some (.int .i64 JN.Type_), some (.slice J9 ([JR, JN.Type_] : List Int).length Vd), some (.tuple ⟨[]⟩)]) 7 [(2, 7), (6, 7), (1, 2), (3, 6), (5, 6), (0, 1), (4, 5)] hA hcl hav hm hpre hk rfl rfl rfl rfl rfl rfl rfl
 clear hm hav
 refine xL hA hst ho hcl hmust [] rfl rfl rfl trivial fun a w hS => ?_
 replace hS := hS.env2 (e' := [(0, qp JO 0), (3, .int .i64 JQ), (4, .int .i64 JP), (7, qp JS 0)]) ⟨rfl, rfl, rfl, rfl, trivial⟩
 refine qi <| wp_seq <| qR (vals := [some (qp JO 0), some (qp JO 0), some (qp JO 2), some (qp JS 2), some (.int .u64 JN.Flags_), some (qp JS 3), some (.int .u64 JN.Addr_), some (.int .i64 JQ), some (.int .u64 (wr .u64 JQ)), some (.int .i64 JP), some (.int .u64 (wr .u64 JP)), none, none]) hS xe rfl ?_
 intro l w ho hcl hA hst
 refine yA hA hst ho hcl zU xf 11 [0, 1, 2, 3, 4, 5, 6, 7, 8, 9, 10] rfl rfl rfl rfl rfl (by exact ⟨nM rfl, nQ rfl (by exact qH (xm rfl) rfl), nQ rfl (by exact qH (qU rfl Tryd.runUnderlying85 rfl Tryd.sizeOf83 rfl) rfl), nQ rfl (by exact qH (qU rfl Tryd.runUnderlying43 rfl Tryd.sizeOf23 rfl) rfl), nQ rfl (by exact qH (zD 5 rfl JW rfl rfl Tryd.isAgg23) rfl), nQ rfl (by exact qH (qU rfl Tryd.runUnderlying43 rfl Tryd.sizeOf23 rfl) rfl), nQ rfl (by exact qH (zD 5 rfl JW rfl rfl Tryd.isAgg23) rfl), nM rfl, nQ rfl (by exact qH (yM rfl Tryd.runUnderlying3 Tryd.runUnderlying23) rfl), nM rfl, nQ rfl (by exact qH (yM rfl Tryd.runUnderlying3 Tryd.runUnderlying23) rfl), trivial⟩) fun D l a w ho hcl hav hpre hm hE hk hA hst => ?_
 have hS := (Ss.mk hE hst).env2 (e' := [(22, .int .u64 JN.Flags_), (24, .int .u64 JN.Addr_), (26, .int .u64 (wr .u64 JQ)), (28, .int .u64 (wr .u64 JP))]) ⟨rfl, rfl, rfl, rfl, trivial⟩
 refine qy rfl <| vQ (g := (ci .u64)) ([JN.Flags_, JN.Addr_, (wr .u64 JQ), (wr .u64 JP)] : List Int) [.int .u64 JN.Flags_, .int .u64 JN.Addr_, .int .u64 (wr .u64 JQ), .int .u64 (wr .u64 JP)] hS Tryd.runUnderlying73 Tryd.sizeOf23 X.el23 rfl rfl rfl (by simp [Value.cells]) rfl rfl rfl rfl rfl fun w Va Ve Vo Vq hS => qs ?_
 replace hst := hS.st
 obtain ⟨hcl, hmust, hav2, hA⟩ := dn (vals' := [some (qp JO 0), some (qp JO 0), some (qp JO 2), some (qp JS 2), some (.int .u64 JN.Flags_), some (qp JS 3), some (.int .u64 JN.Addr_), some (.int .i64 JQ), some (.int .u64 (wr .u64 JQ)), some (.int .i64 JP), some (.int .u64 (wr .u64 JP)), some (.slice Va ([JN.Flags_, JN.Addr_, (wr .u64 JQ), (wr .u64 JP)] : List Int).length Ve), none]) 11 [(4, 11), (6, 11), (8, 11), (10, 11), (3, 4), (5, 6), (7, 8), (9, 10)] hA hcl hav hm hpre hk rfl rfl rfl rfl rfl rfl rfl
 clear hm hav
 refine yA hA hst ho hcl hav2 hmust 12 [0, 1, 2] rfl rfl rfl rfl rfl (by exact ⟨nM rfl, nQ rfl (by exact qH (xm rfl) rfl), nQ rfl (by exact qH (qU rfl Tryd.runUnderlying85 rfl Tryd.sizeOf83 rfl) rfl), trivial⟩) fun D l a w ho hcl hav hpre hm hE hk hA hst => ?_
 have hS := (Ss.mk hE hst).env2 (e' := [(20, qp JO 2), (29, .slice Va ([JN.Flags_, JN.Addr_, (wr .u64 JQ), (wr .u64 JP)] : List Int).length Ve)]) ⟨rfl, rfl, trivial⟩
 refine qy rfl <| ql hS rfl Tryd.call35 (yO hG K (qg.mk JT.bytes_ (qc.mk Vt) JT.names_) ([JN.Flags_, JN.Addr_, (wr .u64 JQ), (wr .u64 JP)] : List Int) JO VA JX JZ J1 JU VN VO VV Vz JY J0 J2 JV Va Ve V2 J4 J6 V0 V1 J5 J7 (Vq.rdF (i := 0) rfl) (Vq.cap (fun _ => rfl) rfl) (hS.st.part 4 [1, 2, 3, 4, 0, 5, 6] (by kernel_rfl)) (qf hM) (fun VP VQ VW Vu VB VC w hM V3 V4 V5 hst => qk hS.ev hst.appF rfl fun hS => ?_))
 replace hS : Ss _ _ _ H [VC, JU, VB, JV, Vo, Vi, Vh] F _ _ := hS
 refine qs ?_
 replace hst := hS.st
 obtain ⟨hcl, hmust, hav2, hA⟩ := dn (vals' := [some (qp JO 0), some (qp JO 0), some (qp JO 2), some (qp JS 2), some (.int .u64 JN.Flags_), some (qp JS 3), some (.int .u64 JN.Addr_), some (.int .i64 JQ), some (.int .u64 (wr .u64 JQ)), some (.int .i64 JP), some (.int .u64 (wr .u64 JP)), some (.slice Va ([JN.Flags_, JN.Addr_, (wr .u64 JQ), (wr .u64 JP)] : List Int).length Ve), some (.tuple ⟨[]⟩)]) 12 [(2, 12), (11, 12), (1, 2), (4, 11), (6, 11), (8, 11), (10, 11), (0, 1), (3, 4), (5, 6), (7, 8), (9, 10)] hA hcl hav hm hpre hk rfl rfl rfl rfl rfl rfl rfl
 clear hm hav
 refine xL hA hst ho hcl hmust [] rfl rfl rfl trivial fun a w hS => ?_
 replace hS := hS.env2 (e' := [(0, qp JO 0), (7, qp JS 0)]) ⟨rfl, rfl, trivial⟩
 refine qi <| wp_seq <| qR (vals := [some (qp JO 0), some (qp JO 0), some (qp JO 2), some (qp JS 6), some (.int .i64 JN.Link_), some (qp JS 7), some (.int .i64 JN.Info_), none, none]) hS xe rfl ?_
 intro l w ho hcl hA hst
 refine yA hA hst ho hcl zU xf 7 [0, 1, 2, 3, 4, 5, 6] rfl rfl rfl rfl rfl (by exact ⟨nM rfl, nQ rfl (by exact qH (xm rfl) rfl), nQ rfl (by exact qH (qU rfl Tryd.runUnderlying85 rfl Tryd.sizeOf83 rfl) rfl), nQ rfl (by exact qH (qU rfl Tryd.runUnderlying43 rfl Tryd.sizeOf3 rfl) rfl), nQ rfl (by exact qH (zD 6 rfl JW rfl rfl Tryd.isAgg3) rfl), nQ rfl (by exact qH (qU rfl Tryd.runUnderlying43 rfl Tryd.sizeOf3 rfl) rfl), nQ rfl (by exact qH (zD 6 rfl JW rfl rfl Tryd.isAgg3) rfl), trivial⟩) fun D l a w ho hcl hav hpre hm hE hk hA hst => ?_
 have hS := (Ss.mk hE hst).env2 (e' := [(35, .int .i64 JN.Link_), (37, .int .i64 JN.Info_)]) ⟨rfl, rfl, trivial⟩
 refine qy rfl <| vQ (g := (ci .i64)) ([JN.Link_, JN.Info_] : List Int) [.int .i64 JN.Link_, .int .i64 JN.Info_] hS Tryd.runUnderlying65 Tryd.sizeOf3 X.el3 rfl rfl rfl (by simp [Value.cells]) rfl rfl rfl rfl rfl fun w Vb Vf VD Vr hS => qs ?_
 replace hst := hS.st
 obtain ⟨hcl, hmust, hav2, hA⟩ := dn (vals' := [some (qp JO 0), some (qp JO 0), some (qp JO 2), some (qp JS 6), some (.int .i64 JN.Link_), some (qp JS 7), some (.int .i64 JN.Info_), some (.slice Vb ([JN.Link_, JN.Info_] : List Int).length Vf), none]) 7 [(4, 7), (6, 7), (3, 4), (5, 6)] hA hcl hav hm hpre hk rfl rfl rfl rfl rfl rfl rfl
 clear hm hav
 refine yA hA hst ho hcl hav2 hmust 8 [0, 1, 2] rfl rfl rfl rfl rfl (by exact ⟨nM rfl, nQ rfl (by exact qH (xm rfl) rfl), nQ rfl (by exact qH (qU rfl Tryd.runUnderlying85 rfl Tryd.sizeOf83 rfl) rfl), trivial⟩) fun D l a w ho hcl hav hpre hm hE hk hA hst => ?_
 have hS := (Ss.mk hE hst).env2 (e' := [(33, qp JO 2), (38, .slice Vb ([JN.Link_, JN.Info_] : List Int).length Vf)]) ⟨rfl, rfl, trivial⟩
 refine qy rfl <| ql hS rfl Tryd.call34 (yN hG K (qg.mk JT.bytes_ (qc.mk Vu) JT.names_) ([JN.Link_, JN.Info_] : List Int) JO VC JX JZ J1 JU VP VQ VW VB JY J0 J2 JV Vb Vf V5 J4 J6 V3 V4 J5 J7 (Vr.rdF (i := 0) rfl) (Vr.cap (fun _ => rfl) rfl) (hS.st.part 4 [1, 2, 3, 4, 0, 5, 6, 7] (by kernel_rfl)) (qf hM) (fun VR VS VX Vv VE VF w hM V6 V7 V8 hst => qk hS.ev hst.appF rfl fun hS => ?_))
 replace hS : Ss _ _ _ H [VF, JU, VE, JV, VD, Vo, Vi, Vh] F _ _ := hS
 refine qs ?_
 replace hst := hS.st
 obtain ⟨hcl, hmust, hav2, hA⟩ := dn (vals' := [some (qp JO 0), some (qp JO 0), some (qp JO 2), some (qp JS 6), some (.int .i64 JN.Link_), some (qp JS 7), some (.int .i64 JN.Info_), some (.slice Vb ([JN.Link_, JN.Info_] : List Int).length Vf), some (.tuple ⟨[]⟩)]) 8 [(2, 8), (7, 8), (1, 2), (4, 7), (6, 7), (0, 1), (3, 4), (5, 6)] hA hcl hav hm hpre hk rfl rfl rfl rfl rfl rfl rfl
 clear hm hav
 refine xL hA hst ho hcl hmust [] rfl rfl rfl trivial fun a w hS => ?_
 replace hS := hS.env2 (e' := [(0, qp JO 0), (7, qp JS 0)]) ⟨rfl, rfl, trivial⟩
 refine qi <| qR (vals := [some (qp JO 0), some (qp JO 0), some (qp JO 2), some (qp JS 8), some (.int .u64 JN.Align_), some (qp JS 9), some (.int .u64 JN.Each_), none, none]) hS xe rfl ?_
 intro l w ho hcl hA hst
 refine yA hA hst ho hcl zU xf 7 [0, 1, 2, 3, 4, 5, 6] rfl rfl rfl rfl rfl (by exact ⟨nM rfl, nQ rfl (by exact qH (xm rfl) rfl), nQ rfl (by exact qH (qU rfl Tryd.runUnderlying85 rfl Tryd.sizeOf83 rfl) rfl), nQ rfl (by exact qH (qU rfl Tryd.runUnderlying43 rfl Tryd.sizeOf23 rfl) rfl), nQ rfl (by exact qH (zD 7 rfl JW rfl rfl Tryd.isAgg23) rfl), nQ rfl (by exact qH (qU rfl Tryd.runUnderlying43 rfl Tryd.sizeOf23 rfl) rfl), nQ rfl (by exact qH (zD 7 rfl JW rfl rfl Tryd.isAgg23) rfl), trivial⟩) fun D l a w ho hcl hav hpre hm hE hk hA hst => ?_
 have hS := (Ss.mk hE hst).env2 (e' := [(44, .int .u64 JN.Align_), (46, .int .u64 JN.Each_)]) ⟨rfl, rfl, trivial⟩
 refine qy rfl <| vQ (g := (ci .u64)) ([JN.Align_, JN.Each_] : List Int) [.int .u64 JN.Align_, .int .u64 JN.Each_] hS Tryd.runUnderlying73 Tryd.sizeOf23 X.el23 rfl rfl rfl (by simp [Value.cells]) rfl rfl rfl rfl rfl fun w Vc Vg VZ Vs hS => qs ?_
 replace hst := hS.st
 obtain ⟨hcl, hmust, hav2, hA⟩ := dn (vals' := [some (qp JO 0), some (qp JO 0), some (qp JO 2), some (qp JS 8), some (.int .u64 JN.Align_), some (qp JS 9), some (.int .u64 JN.Each_), some (.slice Vc ([JN.Align_, JN.Each_] : List Int).length Vg), none]) 7 [(4, 7), (6, 7), (3, 4), (5, 6)] hA hcl hav hm hpre hk rfl rfl rfl rfl rfl rfl rfl
 clear hm hav
 refine yA hA hst ho hcl hav2 hmust 8 [0, 1, 2] rfl rfl rfl rfl rfl (by exact ⟨nM rfl, nQ rfl (by exact qH (xm rfl) rfl), nQ rfl (by exact qH (qU rfl Tryd.runUnderlying85 rfl Tryd.sizeOf83 rfl) rfl), trivial⟩) fun D l a w ho hcl hav hpre hm hE hk hA hst => ?_
 have hS := (Ss.mk hE hst).env2 (e' := [(42, qp JO 2), (47, .slice Vc ([JN.Align_, JN.Each_] : List Int).length Vg)]) ⟨rfl, rfl, trivial⟩
 refine qy rfl <| ql hS rfl Tryd.call35 (yO hG K (qg.mk JT.bytes_ (qc.mk Vv) JT.names_) ([JN.Align_, JN.Each_] : List Int) JO VF JX JZ J1 JU VR VS VX VE JY J0 J2 JV Vc Vg V8 J4 J6 V6 V7 J5 J7 (Vs.rdF (i := 0) rfl) (Vs.cap (fun _ => rfl) rfl) (hS.st.part 4 [1, 2, 3, 4, 0, 5, 6, 7, 8] (by kernel_rfl)) (qf hM) (fun VT VU VY Vw VG VH w hM V9 Ua Ub hst => qk hS.ev hst.appF rfl fun hS => ?_))
 replace hS : Ss _ _ _ H [VH, JU, VG, JV, VZ, VD, Vo, Vi, Vh] F _ _ := hS
 refine qs ?_
 replace hst := hS.st
 obtain ⟨hcl, hmust, hav2, hA⟩ := dn (vals' := [some (qp JO 0), some (qp JO 0), some (qp JO 2), some (qp JS 8), some (.int .u64 JN.Align_), some (qp JS 9), some (.int .u64 JN.Each_), some (.slice Vc ([JN.Align_, JN.Each_] : List Int).length Vg), some (.tuple ⟨[]⟩)]) 8 [(2, 8), (7, 8), (1, 2), (4, 7), (6, 7), (0, 1), (3, 4), (5, 6)] hA hcl hav hm hpre hk rfl rfl rfl rfl rfl rfl rfl
 clear hm hav
 refine xL hA hst ho hcl hmust [] rfl rfl rfl trivial fun a w hS => ?_
 replace hS := hS.env2 (e' := []) trivial
 exact x1 (rs := []) hS rfl rfl (hret VT VU VY Vw VG VH _ (qC hM) V9 Ua Ub (hS.st.pick [0, 1, 2, 3] (by kernel_rfl)))
theorem yI {H : zB} {F : List qj} {w : World} {R : Ending → World → Prop} {kr : (List UInt8) → Prop} {kp : Value → Prop} (hG : Gl H) (K : Nat) (JN : qg) (JO : Nat) (JW : qj) (JS : Option Addr) (J2 : Option Addr) (J4 : Nat) (JX : qj) (JT : Option Addr) (J3 : Option Addr) (J5 : Nat) (JY : qj) (JU : Option Addr) (JP : Option Addr) (JQ : Nat) (J6 : qj) (JR : zH JW JO ([.pointer JS, .slice J2 JN.bytes_.Builder_.length J4, .pointer JT, .slice J3 JN.headers_.Builder_.length J5, .pointer JU, .slice JP JN.names_.length JQ]) 85) (J9 : JS = none ∨ JS = some ⟨JO, 0, none⟩) (Vc : zp 5 (ci .u8) 1 J2 JN.bytes_.Builder_ J4 JX) (Va : JT = none ∨ JT = some ⟨JO, 2, none⟩) (Vd : zp 5 (ci .u8) 1 J3 JN.headers_.Builder_ J5 JY) (Vb : JU = none ∨ JU = some ⟨JO, 4, none⟩) (JZ : zp 5 (ci .u8) 1 JP JN.names_ JQ J6)
    (hS : St w H [JW, JX, JY, J6] F) (hm : (xc.m K JN).wp kr kp)
    (hret : ∀ (J7 : List UInt8) (w : World), kr J7 → St w H [JW, JX, JY] F → R (.returned (qr J7)) w) :
    Calls Tryd.prog 42 ⟨[qp JO 4]⟩ w R := by
 refine enter Tryd.func42 rfl Tryd.ntmps42 rfl hS fun a w hS => ?_
 have hM := hm; clear hm
 rw [xc.m] at hM
 refine qn <| sA hS rfl fun hS => qs <| wp_seq <| qR (vals := [some (qp JO 4), some (qp JO 4), some (qp JO 5), some (.slice JP JN.names_.length JQ), none, some (qp JO 4), some (qp JO 4), some (qp JO 5), some (.slice JP JN.names_.length JQ), some (.int .i64 (JN.names_.length : Int)), none, none]) hS xe rfl ?_
 intro l w ho hcl hA hst
 refine yA hA hst ho hcl zU xf 4 [0, 1, 2, 3, 5, 6, 7, 8, 9] rfl rfl rfl rfl rfl (by exact ⟨nM rfl, nQ rfl (by exact qH (xm rfl) rfl), nQ rfl (by exact qH (qU rfl Tryd.runUnderlying81 rfl Tryd.sizeOf40 rfl) rfl), nQ rfl (by exact qH (zD 0 rfl JR rfl rfl Tryd.isAgg40) rfl), nM rfl, nQ rfl (by exact qH (xm rfl) rfl), nQ rfl (by exact qH (qU rfl Tryd.runUnderlying81 rfl Tryd.sizeOf40 rfl) rfl), nQ rfl (by exact qH (zD 0 rfl JR rfl rfl Tryd.isAgg40) rfl), nQ rfl (by exact qH (xz rfl Tryd.runUnderlying40) rfl), trivial⟩) fun D l a w ho hcl hav hpre hm hE hk hA hst => ?_
 have hS := (Ss.mk hE hst).env2 (e' := [(6, .slice JP JN.names_.length JQ)]) ⟨rfl, trivial⟩
 refine qy rfl <| YO 3 hS rfl JZ rfl Tryd.underlying126 rfl fun JV w J8 hS => qs ?_
 replace hst := hS.st
 obtain ⟨hcl, hmust, hav2, hA⟩ := dn (vals' := [some (qp JO 4), some (qp JO 4), some (qp JO 5), some (.slice JP JN.names_.length JQ), some (.pointer JV), some (qp JO 4), some (qp JO 4), some (qp JO 5), some (.slice JP JN.names_.length JQ), some (.int .i64 (JN.names_.length : Int)), none, none]) 4 [(3, 4), (2, 3), (1, 2), (0, 1)] hA hcl hav hm hpre hk rfl rfl rfl rfl rfl rfl rfl
 clear hm hav
 refine yA hA hst ho hcl hav2 hmust 10 [5, 6, 7, 8, 9] rfl rfl rfl rfl rfl (by exact ⟨nM rfl, nQ rfl (by exact qH (xm rfl) rfl), nQ rfl (by exact qH (qU rfl Tryd.runUnderlying81 rfl Tryd.sizeOf40 rfl) rfl), nQ rfl (by exact qH (zD 0 rfl JR rfl rfl Tryd.isAgg40) rfl), nQ rfl (by exact qH (xz rfl Tryd.runUnderlying40) rfl), trivial⟩) fun D l a w ho hcl hav hpre hm hE hk hA hst => ?_
 have hS := (Ss.mk hE hst).env2 (e' := [(7, .pointer JV), (12, .int .i64 (JN.names_.length : Int))]) ⟨rfl, rfl, trivial⟩
 refine qy rfl <| YP 3 hS rfl rfl J8 JZ rfl Tryd.underlying126 (by kernel_rfl) rfl fun w Ve hS => qs ?_
 replace hst := hS.st
 obtain ⟨J1, J0⟩ : ∃ x, x = (JN.names_.map yt) := ⟨_, rfl⟩
 replace hM := qO J0 hM
 obtain ⟨hcl, hmust, hav2, hA⟩ := dn (vals' := [some (qp JO 4), some (qp JO 4), some (qp JO 5), some (.slice JP JN.names_.length JQ), some (.pointer JV), some (qp JO 4), some (qp JO 4), some (qp JO 5), some (.slice JP JN.names_.length JQ), some (.int .i64 (JN.names_.length : Int)), some (qr (JN.names_.map yt)), some (qr J1)]) 10 [(4, 10), (9, 10), (3, 4), (8, 9), (2, 3), (7, 8), (1, 2), (6, 7), (0, 1), (5, 6)] hA hcl hav hm hpre hk rfl rfl rfl rfl rfl rfl rfl
 clear hm hav
 refine xL hA hst ho hcl hmust [11] rfl rfl rfl (by exact ⟨nQ rfl (by exact qH (xK rfl) (congrArg (qr) J0.symm)), trivial⟩) fun a w hS => ?_
 replace hS := hS.env2 (e' := [(2, qr J1)]) ⟨rfl, trivial⟩
 refine qi <| wp_ret ?_
 exact qT (rs := [2]) hS rfl rfl (hret J1 _ (qC hM) (hS.st.pick [0, 1, 2] (by kernel_rfl)))
theorem x7 {H : zB} {F : List qj} {w : World} {R : Ending → World → Prop} {kr : (Int × (List Int)) → Prop} {kp : Value → Prop} (hG : Gl H) (K : Nat) (JN : qg) (J4 : List UInt8) (JO : Nat) (Va : qj) (JY : Option Addr) (JZ : Option Addr) (J2 : Nat) (J3 : qj) (JP : Option Addr) (JT : Option Addr) (JU : Nat) (JX : qj) (JQ : Option Addr) (JV : Option Addr) (JW : Nat) (Vh : zH Va JO ([.pointer JY, .slice JZ JN.bytes_.Builder_.length J2, .pointer JP, .slice JT JN.headers_.Builder_.length JU, .pointer JQ, .slice JV JN.names_.length JW]) 85) (Vf : JY = none ∨ JY = some ⟨JO, 0, none⟩) (Vj : zp 5 (ci .u8) 1 JZ JN.bytes_.Builder_ J2 J3) (Vp : JP = none ∨ JP = some ⟨JO, 2, none⟩) (Vr : zp 5 (ci .u8) 1 JT JN.headers_.Builder_ JU JX) (Vq : JQ = none ∨ JQ = some ⟨JO, 4, none⟩)
    (hS : St w H [Va, J3, JX] F) (hm : (zP.m K JN J4).wp kr kp)
    (hret : ∀ (Ve : Int) (J1 : Option Addr) (J7 : Option Addr) (J9 : Nat) (JR : (List Int)) (Vc : qj) (Vd : qj) (w : World), kr (Ve, JR) → (J1 = none ∨ J1 = some ⟨JO, 0, none⟩) → (zp 5 (ci .u8) 1 J7 JR J9 Vc) → (zH Vd JO ([.pointer J1, .slice J7 JR.length J9, .pointer JP, .slice JT JN.headers_.Builder_.length JU, .pointer JQ, .slice JV JN.names_.length JW]) 85) → St w H [Vd, Vc, JX] F → R (.returned (.tuple ⟨[.int .i64 Ve, .nilIface]⟩)) w) :
    Calls Tryd.prog 37 ⟨[qp JO 0, qr J4]⟩ w R := by
 refine enter Tryd.func37 rfl Tryd.ntmps37 rfl hS fun a w hS => ?_
 have hM := hm; clear hm
 rw [zP.m] at hM
 refine qn <| sA hS rfl fun hS => sA hS rfl fun hS => qs <| qn <| sM hS rfl fun hS => ql hS rfl Tryd.call69 (jZ rfl rfl Vh Vf (hS.st.part 1 [0, 1, 2] (by kernel_rfl)) (fun J0 Vb w Vg JS hst => qk hS.ev hst.appF rfl fun hS => ?_))
 replace hS : Ss _ _ _ H [Vb, J3, JX] F _ _ := hS
 replace JS : zH Vb JO ([.pointer J0, .slice JZ JN.bytes_.Builder_.length J2, .pointer JP, .slice JT JN.headers_.Builder_.length JU, .pointer JQ, .slice JV JN.names_.length JW]) 85 := JS
 refine qs <| qn <| sM hS rfl fun hS => sM hS rfl fun hS => sO hS (xm rfl) rfl fun hS => sO hS (qU rfl Tryd.runUnderlying81 rfl Tryd.sizeOf40 rfl) rfl fun hS => sO hS (zD 0 rfl JS rfl rfl Tryd.isAgg40) rfl fun hS => sM hS rfl fun hS => ?_
 obtain ⟨Vl, hM⟩ := qL hM
 refine Ye 1 hS rfl rfl Vj rfl Tryd.runUnderlying40 Tryd.runUnderlying9 X.el5 rfl Vl rfl fun J5 w J6 J8 Vm hz Vk hS => ?_
 have hM := qO hz hM; clear hz
 refine sO hS (xm rfl) rfl fun hS => sO hS (qU rfl Tryd.runUnderlying81 rfl Tryd.sizeOf40 rfl) rfl fun hS => y3 0 ([.pointer J0, .slice J6 J5.length J8, .pointer JP, .slice JT JN.headers_.Builder_.length JU, .pointer JQ, .slice JV JN.names_.length JW]) hS rfl rfl JS rfl rfl rfl rfl Tryd.sizeOf40 fun w Vn Vi hS => qs <| qn <| sM hS rfl fun hS => sO hS (yi rfl Tryd.runUnderlying9) rfl fun hS => zO (v := Value.int .i64) (x0 := (J4.length : Int)) hS (xK rfl) rfl fun Vo a w hz hS => ?_
 have hM := qO hz hM; clear hz
 refine sA hS rfl fun hS => qs <| wp_ret ?_
 exact qT (rs := [4, 5]) hS rfl rfl (hret Vo J0 J6 J8 J5 Vm Vn _ (qC hM) Vg Vk Vi (hS.st.pick [0, 1, 2] (by kernel_rfl)))
theorem xM {H : zB} {F : List qj} {w : World} {R : Ending → World → Prop} {kr : Int → Prop} {kp : Value → Prop} (hG : Gl H) (K : Nat) (JN : qg) (JO : Nat) (JS : qj) (JP : Option Addr) (JV : Option Addr) (JX : Nat) (JT : qj) (JQ : Option Addr) (JW : Option Addr) (JY : Nat) (JU : qj) (JR : Option Addr) (J1 : Option Addr) (J2 : Nat) (J0 : zH JS JO ([.pointer JP, .slice JV JN.bytes_.Builder_.length JX, .pointer JQ, .slice JW JN.headers_.Builder_.length JY, .pointer JR, .slice J1 JN.names_.length J2]) 85) (J4 : JP = none ∨ JP = some ⟨JO, 0, none⟩) (J7 : zp 5 (ci .u8) 1 JV JN.bytes_.Builder_ JX JT) (J5 : JQ = none ∨ JQ = some ⟨JO, 2, none⟩) (J8 : zp 5 (ci .u8) 1 JW JN.headers_.Builder_ JY JU) (J6 : JR = none ∨ JR = some ⟨JO, 4, none⟩)
    (hS : St w H [JS, JT, JU] F) (hm : (zY.m K JN).wp kr kp)
    (hret : ∀ (JZ : Int) (w : World), kr JZ → St w H [JS, JT, JU] F → R (.returned (.int .i64 JZ)) w) :
    Calls Tryd.prog 41 ⟨[qp JO 0]⟩ w R := by
 refine enter Tryd.func41 rfl Tryd.ntmps41 rfl hS fun a w hS => ?_
 have hM := hm; clear hm
 rw [zY.m] at hM
 refine qn <| sA hS rfl fun hS => qs <| qn <| sM hS rfl fun hS => sO hS (xm rfl) rfl fun hS => sO hS (qU rfl Tryd.runUnderlying81 rfl Tryd.sizeOf40 rfl) rfl fun hS => sO hS (zD 0 rfl J0 rfl rfl Tryd.isAgg40) rfl fun hS => sO hS (xz rfl Tryd.runUnderlying40) rfl fun hS => zO (v := Value.int .i64) (x0 := (JN.bytes_.Builder_.length : Int)) hS (xK rfl) rfl fun J3 a w hz hS => ?_
 have hM := qO hz hM; clear hz
 refine qs <| wp_ret ?_
 exact qT (rs := [2]) hS rfl rfl (hret J3 _ (qC hM) (hS.st.pick [0, 1, 2] (by kernel_rfl)))
theorem yl {H : zB} {F : List qj} {w : World} {R : Ending → World → Prop} {kr : (List Int) → Prop} {kp : Value → Prop} (hG : Gl H) (K : Nat) (JN : qg) (JP : Int) (JO : Nat) (Va : qj) (JZ : Option Addr) (J0 : Option Addr) (J3 : Nat) (J4 : qj) (JQ : Option Addr) (JU : Option Addr) (JV : Nat) (JY : qj) (JR : Option Addr) (JW : Option Addr) (JX : Nat) (Vg : zH Va JO ([.pointer JZ, .slice J0 JN.bytes_.Builder_.length J3, .pointer JQ, .slice JU JN.headers_.Builder_.length JV, .pointer JR, .slice JW JN.names_.length JX]) 85) (Ve : JZ = none ∨ JZ = some ⟨JO, 0, none⟩) (Vi : zp 5 (ci .u8) 1 J0 JN.bytes_.Builder_ J3 J4) (Vo : JQ = none ∨ JQ = some ⟨JO, 2, none⟩) (Vq : zp 5 (ci .u8) 1 JU JN.headers_.Builder_ JV JY) (Vp : JR = none ∨ JR = some ⟨JO, 4, none⟩)
    (hS : St w H [Va, J4, JY] F) (hm : (zV.m K JN JP).wp kr kp)
    (hret : ∀ (J2 : Option Addr) (J7 : Option Addr) (J9 : Nat) (JS : (List Int)) (Vc : qj) (Vd : qj) (w : World), kr JS → (J2 = none ∨ J2 = some ⟨JO, 0, none⟩) → (zp 5 (ci .u8) 1 J7 JS J9 Vc) → (zH Vd JO ([.pointer J2, .slice J7 JS.length J9, .pointer JQ, .slice JU JN.headers_.Builder_.length JV, .pointer JR, .slice JW JN.names_.length JX]) 85) → St w H [Vd, Vc, JY] F → R (.returned (.nilIface)) w) :
    Calls Tryd.prog 73 ⟨[qp JO 0, .int .u8 JP]⟩ w R := by
 refine enter Tryd.func73 rfl Tryd.ntmps73 rfl hS fun a w hS => ?_
 have hM := hm; clear hm
 rw [zV.m] at hM
 refine qn <| sA hS rfl fun hS => qs <| qn <| sM hS rfl fun hS => ql hS rfl Tryd.call69 (jZ rfl rfl Vg Ve (hS.st.part 1 [0, 1, 2] (by kernel_rfl)) (fun J1 Vb w Vf JT hst => qk hS.ev hst.appF rfl fun hS => ?_))
 replace hS : Ss _ _ _ H [Vb, J4, JY] F _ _ := hS
 replace JT : zH Vb JO ([.pointer J1, .slice J0 JN.bytes_.Builder_.length J3, .pointer JQ, .slice JU JN.headers_.Builder_.length JV, .pointer JR, .slice JW JN.names_.length JX]) 85 := JT
 refine qs <| qn <| sM hS rfl fun hS => sM hS rfl fun hS => sO hS (xm rfl) rfl fun hS => sO hS (qU rfl Tryd.runUnderlying81 rfl Tryd.sizeOf40 rfl) rfl fun hS => sO hS (zD 0 rfl JT rfl rfl Tryd.isAgg40) rfl fun hS => sM hS rfl fun hS => vQ (g := (ci .u8)) ([JP] : List Int) [.int .u8 JP] hS Tryd.runUnderlying40 Tryd.sizeOf5 X.el5 rfl rfl rfl (by simp [Value.cells]) rfl rfl rfl rfl rfl fun w Vr Vs Vt Vj hS => ?_
 obtain ⟨Vl, hM⟩ := qL hM
 refine Xr (ys := ([JP] : List Int)) 2 hS rfl rfl Vi rfl (Vj.rd (i := 0) rfl) Tryd.runUnderlying40 Tryd.runUnderlying40 X.el5 (fun _ => rfl) rfl QE Vl rfl fun J5 w J6 J8 Vm hz Vk hS => ?_
 have hM := qO hz hM; clear hz
 refine sO hS (xm rfl) rfl fun hS => sO hS (qU rfl Tryd.runUnderlying81 rfl Tryd.sizeOf40 rfl) rfl fun hS => y3 1 ([.pointer J1, .slice J6 J5.length J8, .pointer JQ, .slice JU JN.headers_.Builder_.length JV, .pointer JR, .slice JW JN.names_.length JX]) hS rfl rfl JT rfl rfl rfl rfl Tryd.sizeOf40 fun w Vn Vh hS => qs <| qn <| sA hS rfl fun hS => qs <| wp_ret ?_
 exact qT (rs := [4]) hS rfl rfl (hret J1 J6 J8 J5 Vm Vn _ (qC hM) Vf Vk Vh (hS.st.pick [1, 2, 3] (by kernel_rfl)))
theorem jO {H : zB} {F : List qj} {w : World} {R : Ending → World → Prop} {kr : (Int × (List Int)) → Prop} {kp : Value → Prop} (hG : Gl H) (K : Nat) (JN : qg) (JO : Nat) (Vj : qj) (Vf : Option Addr) (Vg : Option Addr) (Vi : Nat) (Vk : qj) (JS : Option Addr) (JU : Option Addr) (JV : Nat) (JQ : qj) (JT : Option Addr) (JW : Option Addr) (JY : Nat) (Vy : zH Vj JO ([.pointer Vf, .slice Vg JN.bytes_.Builder_.length Vi, .pointer JS, .slice JU JN.headers_.Builder_.length JV, .pointer JT, .slice JW JN.names_.length JY]) 85) (Vx : Vf = none ∨ Vf = some ⟨JO, 0, none⟩) (VB : zp 5 (ci .u8) 1 Vg JN.bytes_.Builder_ Vi Vk) (J9 : JS = none ∨ JS = some ⟨JO, 2, none⟩) (Vd : zp 5 (ci .u8) 1 JU JN.headers_.Builder_ JV JQ) (Va : JT = none ∨ JT = some ⟨JO, 4, none⟩)
    (hS : St w H [Vj, Vk, JQ] F) (hm : (zd.m K JN).wp kr kp)
    (hret : ∀ (Vw : Int) (Vh : Option Addr) (Vp : Option Addr) (Vq : Nat) (J6 : (List Int)) (Vt : qj) (Vu : qj) (w : World), kr (Vw, J6) → (Vh = none ∨ Vh = some ⟨JO, 0, none⟩) → (zp 5 (ci .u8) 1 Vp J6 Vq Vt) → (zH Vu JO ([.pointer Vh, .slice Vp J6.length Vq, .pointer JS, .slice JU JN.headers_.Builder_.length JV, .pointer JT, .slice JW JN.names_.length JY]) 85) → St w H [Vu, Vt, JQ] F → R (.returned (.int .i64 Vw)) w) :
    Calls Tryd.prog 39 ⟨[qp JO 0]⟩ w R := by
 refine enter Tryd.func39 rfl Tryd.ntmps39 rfl hS fun a w hS => ?_
 have hM := hm; clear hm
 rw [zd.m] at hM
 refine qn <| sA hS rfl fun hS => qs <| zq (fun a w => ∃ (J2 : Option Addr) (J7 : Option Addr) (J8 : Nat) (JR : (List Int)) (J4 : qj) (J5 : qj), Ss 21 [] [(0, qp JO 0)] H [J5, J4, JQ] F a w ∧ (J2 = none ∨ J2 = some ⟨JO, 0, none⟩) ∧ (zp 5 (ci .u8) 1 J7 JR J8 J4) ∧ (zH J5 JO ([.pointer J2, .slice J7 JR.length J8, .pointer JS, .slice JU JN.headers_.Builder_.length JV, .pointer JT, .slice JW JN.names_.length JY]) 85) ∧ (zd.j2 K JN JR).wp kr kp) (fun VM VA => ?_) ?_
 ·refine yp ?_
  refine zz (fun Vv a w => ∃ (JX : Option Addr) (J1 : Option Addr) (J3 : Nat) (JP : (List Int)) (JZ : qj) (J0 : qj), Ss 21 [] [(0, qp JO 0)] H [J0, JZ, JQ] F a w ∧ (JX = none ∨ JX = some ⟨JO, 0, none⟩) ∧ (zp 5 (ci .u8) 1 J1 JP J3 JZ) ∧ (zH J0 JO ([.pointer JX, .slice J1 JP.length J3, .pointer JS, .slice JU JN.headers_.Builder_.length JV, .pointer JT, .slice JW JN.names_.length JY]) 85) ∧ (zd.l1 K JN Vv JP).wp kr kp) K ?_ ?_ ?_
  ·exact ⟨Vf, Vg, Vi, JN.bytes_.Builder_, Vk, Vj, hS.to [0, 1, 2] (by kernel_rfl) ⟨rfl, trivial⟩, Vx, VB, Vy, hM⟩
  ·intro a w hI; obtain ⟨_, _, _, _, _, _, _, _, _, _, hM⟩ := hI; exact zA hM
  ·intro Vv a w hI VL Vz
   obtain ⟨JX, J1, J3, JP, JZ, J0, hS, Vb, Ve, Vc, hM⟩ := hI
   rw [zd.l1] at hM
   refine wp_seq <| qn <| sM hS rfl fun hS => sO hS (xm rfl) rfl fun hS => sO hS (qU rfl Tryd.runUnderlying85 rfl Tryd.sizeOf83 rfl) rfl fun hS => sO hS (qU rfl Tryd.runUnderlying83 rfl Tryd.sizeOf81 rfl) rfl fun hS => ql hS rfl Tryd.call41 (xM hG K (qg.mk (qc.mk JP) JN.headers_ JN.names_) JO J0 JX J1 J3 JZ JS JU JV JQ JT JW JY Vc Vb Ve J9 Vd Va (hS.st.part 3 [0, 1, 2] (by kernel_rfl)) (qf hM) (fun VN w hM  hst => qk hS.ev hst.appF rfl fun hS => ?_))
   replace hS : Ss _ _ _ H [J0, JZ, JQ] F _ _ := hS
   refine sO hS (rem rfl rfl rfl) rfl fun hS => sB hS rfl fun hS => qs <| qI hS rfl hM (fun VC hM => ?_) (fun VC hM => ?_)
   ·refine wp_skip ?_
    refine qi <| yp <| zI <| sM hS rfl fun hS => sO hS (xm rfl) rfl fun hS => sO hS (qU rfl Tryd.runUnderlying85 rfl Tryd.sizeOf83 rfl) rfl fun hS => sO hS (qU rfl Tryd.runUnderlying83 rfl Tryd.sizeOf81 rfl) rfl fun hS => ql hS rfl Tryd.call73 (yl hG K (qg.mk (qc.mk JP) JN.headers_ JN.names_) (0 : Int) JO J0 JX J1 J3 JZ JS JU JV JQ JT JW JY Vc Vb Ve J9 Vd Va (hS.st.part 3 [0, 1, 2] (by kernel_rfl)) (qf hM) (fun VD VE VF Vo Vr Vs w hM VG VH VI hst => qk hS.ev hst.appF rfl fun hS => ?_))
    replace hS : Ss _ _ _ H [Vs, Vr, JQ] F _ _ := hS
    refine qN <| xr (qi ?_)
    exact Vz _ _ ⟨VD, VE, VF, Vo, Vr, Vs, hS.to [0, 1, 2] (by kernel_rfl) ⟨rfl, trivial⟩, VG, VH, VI, hM⟩
   ·refine wp_exit ?_
    refine qK (qK (zi (qi ?_)))
    exact VA _ _ ⟨JX, J1, J3, JP, JZ, J0, hS.to [0, 1, 2] (by kernel_rfl) ⟨rfl, trivial⟩, Vb, Ve, Vc, hM⟩
 ·intro a w hI
  obtain ⟨J2, J7, J8, JR, J4, J5, hS, Vl, Vn, Vm, hM⟩ := hI
  rw [zd.j2] at hM
  refine qn <| sM hS rfl fun hS => sO hS (xm rfl) rfl fun hS => sO hS (qU rfl Tryd.runUnderlying85 rfl Tryd.sizeOf83 rfl) rfl fun hS => sO hS (qU rfl Tryd.runUnderlying83 rfl Tryd.sizeOf81 rfl) rfl fun hS => ql hS rfl Tryd.call41 (xM hG K (qg.mk (qc.mk JR) JN.headers_ JN.names_) JO J5 J2 J7 J8 J4 JS JU JV JQ JT JW JY Vm Vl Vn J9 Vd Va (hS.st.part 3 [0, 1, 2] (by kernel_rfl)) (qf hM) (fun VK w hM  hst => qk hS.ev hst.appF rfl fun hS => ?_))
  replace hS : Ss _ _ _ H [J5, J4, JQ] F _ _ := hS
  refine sB hS rfl fun hS => zO (v := Value.int .i64) (x0 := (qM ((64 : Int) + VK))) hS (xK rfl) rfl fun VJ a w hz hS => ?_
  have hM := qO hz hM; clear hz
  refine qs <| wp_ret ?_
  exact qT (rs := [2]) hS rfl rfl (hret VJ J2 J7 J8 JR J4 J5 _ (qC hM) Vl Vn Vm (hS.st.pick [0, 1, 2] (by kernel_rfl)))
theorem xh {H : zB} {F : List qj} {w : World} {R : Ending → World → Prop} {kr : (Int × (List Int)) → Prop} {kp : Value → Prop} (hG : Gl H) (K : Nat) (JO : qc) (JX : List UInt8) (JN : Nat) (J3 : qj) (JR : Option Addr) (JS : Option Addr) (JV : Nat) (JW : qj) (Va : zH J3 JN ([.pointer JR, .slice JS JO.Builder_.length JV]) 83) (J8 : JR = none ∨ JR = some ⟨JN, 0, none⟩) (Vc : zp 5 (ci .u8) 1 JS JO.Builder_ JV JW)
    (hS : St w H [J3, JW] F) (hm : (zw.m K JO JX).wp kr kp)
    (hret : ∀ (J7 : Int) (JU : Option Addr) (J0 : Option Addr) (J2 : Nat) (JP : (List Int)) (J5 : qj) (J6 : qj) (w : World), kr (J7, JP) → (JU = none ∨ JU = some ⟨JN, 0, none⟩) → (zp 5 (ci .u8) 1 J0 JP J2 J5) → (zH J6 JN ([.pointer JU, .slice J0 JP.length J2]) 83) → St w H [J6, J5] F → R (.returned (.tuple ⟨[.int .i64 J7, .nilIface]⟩)) w) :
    Calls Tryd.prog 37 ⟨[qp JN 0, qr JX]⟩ w R := by
 refine enter Tryd.func37 rfl Tryd.ntmps37 rfl hS fun a w hS => ?_
 have hM := hm; clear hm
 rw [zw.m] at hM
 refine qn <| sA hS rfl fun hS => sA hS rfl fun hS => qs <| qn <| sM hS rfl fun hS => ql hS rfl Tryd.call69 (Zl rfl rfl Va J8 (hS.st.part 1 [0, 1] (by kernel_rfl)) (fun JT J4 w J9 JQ hst => qk hS.ev hst.appF rfl fun hS => ?_))
 replace hS : Ss _ _ _ H [J4, JW] F _ _ := hS
 replace JQ : zH J4 JN ([.pointer JT, .slice JS JO.Builder_.length JV]) 83 := JQ
 refine qs <| qn <| sM hS rfl fun hS => sM hS rfl fun hS => sO hS (xm rfl) rfl fun hS => sO hS (qU rfl Tryd.runUnderlying81 rfl Tryd.sizeOf40 rfl) rfl fun hS => sO hS (zD 0 rfl JQ rfl rfl Tryd.isAgg40) rfl fun hS => sM hS rfl fun hS => ?_
 obtain ⟨Ve, hM⟩ := qL hM
 refine Ye 1 hS rfl rfl Vc rfl Tryd.runUnderlying40 Tryd.runUnderlying9 X.el5 rfl Ve rfl fun JY w JZ J1 Vf hz Vd hS => ?_
 have hM := qO hz hM; clear hz
 refine sO hS (xm rfl) rfl fun hS => sO hS (qU rfl Tryd.runUnderlying81 rfl Tryd.sizeOf40 rfl) rfl fun hS => y3 0 ([.pointer JT, .slice JZ JY.length J1]) hS rfl rfl JQ rfl rfl rfl rfl Tryd.sizeOf40 fun w Vg Vb hS => qs <| qn <| sM hS rfl fun hS => sO hS (yi rfl Tryd.runUnderlying9) rfl fun hS => zO (v := Value.int .i64) (x0 := (JX.length : Int)) hS (xK rfl) rfl fun Vh a w hz hS => ?_
 have hM := qO hz hM; clear hz
 refine sA hS rfl fun hS => qs <| wp_ret ?_
 exact qT (rs := [4, 5]) hS rfl rfl (hret Vh JT JZ J1 JY Vf Vg _ (qC hM) J9 Vd Vb (hS.st.pick [0, 1] (by kernel_rfl)))
theorem yy {H : zB} {F : List qj} {w : World} {R : Ending → World → Prop} {kr : (List Int) → Prop} {kp : Value → Prop} (hG : Gl H) (K : Nat) (JV : qc) (JN : Int) (JO : List Int) (JQ : Nat) (J5 : qj) (JZ : Option Addr) (J0 : Option Addr) (J3 : Nat) (J6 : qj) (J1 : Option Addr) (J4 : Nat) (Vl : zH J5 JQ ([.pointer JZ, .slice J0 JV.Builder_.length J3]) 83) (Vk : JZ = none ∨ JZ = some ⟨JQ, 0, none⟩) (Vn : zp 5 (ci .u8) 1 J0 JV.Builder_ J3 J6) (Vb : yT H [] F (ci .u64) J1 JO) (Vx : JO.length ≤ J4)
    (hS : St w H [J5, J6] F) (hm : (zn.m K JV JN JO).wp kr kp)
    (hret : ∀ (J2 : Option Addr) (Vd : Option Addr) (Ve : Nat) (JU : (List Int)) (Vh : qj) (Vi : qj) (w : World), kr JU → (J2 = none ∨ J2 = some ⟨JQ, 0, none⟩) → (zp 5 (ci .u8) 1 Vd JU Ve Vh) → (zH Vi JQ ([.pointer J2, .slice Vd JU.length Ve]) 83) → St w H [Vi, Vh] F → R (.returned (.tuple ⟨[]⟩)) w) :
    Calls Tryd.prog 68 ⟨[qp JQ 0, .int .i64 JN, .slice J1 JO.length J4]⟩ w R := by
 refine enter Tryd.func68 rfl Tryd.ntmps68 rfl hS fun a w hS => ?_
 have hM := hm; clear hm
 rw [zn.m] at hM
 refine qn <| sM hS rfl fun hS => sO hS (xz rfl Tryd.runUnderlying73) rfl fun hS => sM hS rfl fun hS => qs <| yp <| zz (fun Vj a w => ∃ (JR : Option Addr) (JW : Option Addr) (JX : Nat) (JP : (List Int)) (JS : qj) (JT : qj) (JY : Int), Ss 28 [] [(0, qp JQ 0), (1, .int .i64 JN), (10, .slice J1 JO.length J4), (11, .int .i64 (JO.length : Int)), (12, .int .i64 JY)] H [JT, JS] F a w ∧ (JR = none ∨ JR = some ⟨JQ, 0, none⟩) ∧ (zp 5 (ci .u8) 1 JW JP JX JS) ∧ (zH JT JQ ([.pointer JR, .slice JW JP.length JX]) 83) ∧ (zn.l1 K JN JO Vj JP JY).wp kr kp) K ?_ ?_ ?_
 ·exact ⟨JZ, J0, J3, JV.Builder_, J6, J5, (0 : Int), hS.to [0, 1] (by kernel_rfl) ⟨rfl, rfl, rfl, rfl, rfl, trivial⟩, Vk, Vn, Vl, hM⟩
 ·intro a w hI; obtain ⟨_, _, _, _, _, _, _, _, _, _, _, hM⟩ := hI; exact zA hM
 ·intro Vj a w hI Vy Vm
  obtain ⟨JR, JW, JX, JP, JS, JT, JY, hS, J7, J9, J8, hM⟩ := hI
  rw [zn.l1] at hM
  refine qn <| sB hS rfl fun hS => qs <| wp_seq <| qI hS rfl hM (fun Vo hM => ?_) (fun Vo hM => ?_)
  ·refine wp_skip ?_
   refine qi <| wp_seq <| yp <| wp_seq <| zI ?_
   obtain ⟨Va, hM⟩ := qL hM
   refine sO hS (vS rfl rfl Tryd.runUnderlying73 Tryd.sizeOf23 Vb.wk (fun _ => rfl) rfl Va) rfl fun hS => sO hS (uP rfl Vb.wk (fun _ => rfl) Va rfl Tryd.isAgg23) rfl fun hS => zO (v := Value.int .u64) (x0 := (rd JO JY)) hS (xK rfl) rfl fun Vp a w hz hS => ?_
   have hM := qO hz hM; clear hz
   refine qs <| qn <| sM hS rfl fun hS => sM hS rfl fun hS => ql hS rfl Tryd.call85 (yn hG K Vp JN (hS.st.part 0 [0, 1] (by kernel_rfl)) (qf hM) (fun Vw Vz w hM  hst => qk hS.ev hst.appF rfl fun hS => ?_))
   replace hS : Ss _ _ _ H [JT, JS] F _ _ := hS
   refine sM hS rfl fun hS => sO hS (ex rfl rfl) rfl fun hS => sO hS (ex rfl rfl) rfl fun hS => sA hS rfl fun hS => sA hS rfl fun hS => qs <| zI <| sM hS rfl fun hS => sO hS (xm rfl) rfl fun hS => sO hS (qU rfl Tryd.runUnderlying83 rfl Tryd.sizeOf81 rfl) rfl fun hS => sM hS rfl fun hS => ql hS rfl Tryd.call37 (xh hG K (qc.mk JP) Vw JQ JT JR JW JX JS J8 J7 J9 (hS.st.part 2 [0, 1] (by kernel_rfl)) (qf hM) (fun VA Vq Vr Vs Vc Vf Vg w hM Vt Vu Vv hst => qk hS.ev hst.appF rfl fun hS => ?_))
   replace hS : Ss _ _ _ H [Vg, Vf] F _ _ := hS
   refine qN <| xr (qi ?_)
   refine zI <| sB hS rfl fun hS => sM hS rfl fun hS => qN <| qi ?_
   exact Vm _ _ ⟨Vq, Vr, Vs, Vc, Vf, Vg, (qM (JY + (1 : Int))), hS.to [0, 1] (by kernel_rfl) ⟨rfl, rfl, rfl, rfl, rfl, trivial⟩, Vt, Vu, Vv, hM⟩
  ·refine wp_exit ?_
   refine qK (qK (zi ?_))
   exact x1 (rs := []) hS rfl rfl (hret JR JW JX JP JS JT _ (qC hM) J7 J9 J8 (hS.st.pick [0, 1] (by kernel_rfl)))
theorem js {H : zB} {F : List qj} {w : World} {R : Ending → World → Prop} {kr : (List Int) → Prop} {kp : Value → Prop} (hG : Gl H) (K : Nat) (JS : qc) (JN : List Int) (JP : Nat) (J5 : qj) (JZ : Option Addr) (J0 : Option Addr) (J3 : Nat) (J6 : qj) (J1 : Option Addr) (J4 : Nat) (Vm : zH J5 JP ([.pointer JZ, .slice J0 JS.Builder_.length J3]) 83) (Vl : JZ = none ∨ JZ = some ⟨JP, 0, none⟩) (Vo : zp 5 (ci .u8) 1 J0 JS.Builder_ J3 J6) (Vc : yT H [] F (ci .i64) J1 JN) (Vz : JN.length ≤ J4)
    (hS : St w H [J5, J6] F) (hm : (zN.m K JS JN).wp kr kp)
    (hret : ∀ (J2 : Option Addr) (Ve : Option Addr) (Vf : Nat) (JR : (List Int)) (Vi : qj) (Vj : qj) (w : World), kr JR → (J2 = none ∨ J2 = some ⟨JP, 0, none⟩) → (zp 5 (ci .u8) 1 Ve JR Vf Vi) → (zH Vj JP ([.pointer J2, .slice Ve JR.length Vf]) 83) → St w H [Vj, Vi] F → R (.returned (.tuple ⟨[]⟩)) w) :
    Calls Tryd.prog 43 ⟨[qp JP 0, .slice J1 JN.length J4]⟩ w R := by
 refine enter Tryd.func43 rfl Tryd.ntmps43 rfl hS fun a w hS => ?_
 have hM := hm; clear hm
 rw [zN.m] at hM
 refine qn <| sM hS rfl fun hS => sO hS (xz rfl Tryd.runUnderlying65) rfl fun hS => sM hS rfl fun hS => qs <| yp <| zz (fun Vk a w => ∃ (JQ : Option Addr) (JT : Option Addr) (JU : Nat) (JO : (List Int)) (JV : qj) (JW : qj) (JX : Int), Ss 18 [] [(0, qp JP 0), (6, .slice J1 JN.length J4), (7, .int .i64 (JN.length : Int)), (8, .int .i64 JX)] H [JW, JV] F a w ∧ (JQ = none ∨ JQ = some ⟨JP, 0, none⟩) ∧ (zp 5 (ci .u8) 1 JT JO JU JV) ∧ (zH JW JP ([.pointer JQ, .slice JT JO.length JU]) 83) ∧ (zN.l1 K JN Vk JO JX).wp kr kp) K ?_ ?_ ?_
 ·exact ⟨JZ, J0, J3, JS.Builder_, J6, J5, (0 : Int), hS.to [0, 1] (by kernel_rfl) ⟨rfl, rfl, rfl, rfl, trivial⟩, Vl, Vo, Vm, hM⟩
 ·intro a w hI; obtain ⟨_, _, _, _, _, _, _, _, _, _, _, hM⟩ := hI; exact zA hM
 ·intro Vk a w hI VA Vn
  obtain ⟨JQ, JT, JU, JO, JV, JW, JX, hS, J7, J9, J8, hM⟩ := hI
  rw [zN.l1] at hM
  refine qn <| sB hS rfl fun hS => qs <| wp_seq <| qI hS rfl hM (fun Vp hM => ?_) (fun Vp hM => ?_)
  ·refine wp_skip ?_
   refine qi <| wp_seq <| yp <| wp_seq <| zI ?_
   obtain ⟨Vb, hM⟩ := qL hM
   refine sO hS (vS rfl rfl Tryd.runUnderlying65 Tryd.sizeOf3 Vc.wk (fun _ => rfl) rfl Vb) rfl fun hS => sO hS (uP rfl Vc.wk (fun _ => rfl) Vb rfl Tryd.isAgg3) rfl fun hS => zO (v := Value.int .i64) (x0 := (rd JN JX)) hS (xK rfl) rfl fun JY a w hz hS => ?_
   have hM := qO hz hM; clear hz
   refine qs <| zI <| sM hS rfl fun hS => sM hS rfl fun hS => sO hS (yM rfl Tryd.runUnderlying3 Tryd.runUnderlying23) rfl fun hS => vQ (g := (ci .u64)) ([(wr .u64 JY)] : List Int) [.int .u64 (wr .u64 JY)] hS Tryd.runUnderlying73 Tryd.sizeOf23 X.el23 rfl rfl rfl (by simp [Value.cells]) rfl rfl rfl rfl rfl fun w Vq Vt Vv Va hS => ql hS rfl Tryd.call68 (yy hG K (qc.mk JO) (2 : Int) ([(wr .u64 JY)] : List Int) JP JW JQ JT JU JV Vq Vt J8 J7 J9 (Va.rdF (i := 0) rfl) (Va.cap (fun _ => rfl) rfl) (hS.st.part 2 [1, 2, 0] (by kernel_rfl)) (qf hM) (fun Vr Vs Vu Vd Vg Vh w hM Vw Vx Vy hst => qk hS.ev hst.appF rfl fun hS => ?_))
   replace hS : Ss _ _ _ H [Vh, Vg, Vv] F _ _ := hS
   refine qN <| xr (qi ?_)
   refine zI <| sB hS rfl fun hS => sM hS rfl fun hS => qN <| qi ?_
   exact Vn _ _ ⟨Vr, Vs, Vu, Vd, Vg, Vh, (qM (JX + (1 : Int))), hS.to [0, 1] (by kernel_rfl) ⟨rfl, rfl, rfl, rfl, trivial⟩, Vw, Vx, Vy, hM⟩
  ·refine wp_exit ?_
   refine qK (qK (zi ?_))
   exact x1 (rs := []) hS rfl rfl (hret JQ JT JU JO JV JW _ (qC hM) J7 J9 J8 (hS.st.pick [0, 1] (by kernel_rfl)))
theorem jt {H : zB} {F : List qj} {w : World} {R : Ending → World → Prop} {kr : (List Int) → Prop} {kp : Value → Prop} (hG : Gl H) (K : Nat) (JS : qc) (JN : List Int) (JP : Nat) (J5 : qj) (JZ : Option Addr) (J0 : Option Addr) (J3 : Nat) (J6 : qj) (J1 : Option Addr) (J4 : Nat) (Vm : zH J5 JP ([.pointer JZ, .slice J0 JS.Builder_.length J3]) 83) (Vl : JZ = none ∨ JZ = some ⟨JP, 0, none⟩) (Vo : zp 5 (ci .u8) 1 J0 JS.Builder_ J3 J6) (Vc : yT H [] F (ci .i64) J1 JN) (Vz : JN.length ≤ J4)
    (hS : St w H [J5, J6] F) (hm : (z8.m K JS JN).wp kr kp)
    (hret : ∀ (J2 : Option Addr) (Ve : Option Addr) (Vf : Nat) (JR : (List Int)) (Vi : qj) (Vj : qj) (w : World), kr JR → (J2 = none ∨ J2 = some ⟨JP, 0, none⟩) → (zp 5 (ci .u8) 1 Ve JR Vf Vi) → (zH Vj JP ([.pointer J2, .slice Ve JR.length Vf]) 83) → St w H [Vj, Vi] F → R (.returned (.tuple ⟨[]⟩)) w) :
    Calls Tryd.prog 34 ⟨[qp JP 0, .slice J1 JN.length J4]⟩ w R := by
 refine enter Tryd.func34 rfl Tryd.ntmps34 rfl hS fun a w hS => ?_
 have hM := hm; clear hm
 rw [z8.m] at hM
 refine qn <| sM hS rfl fun hS => sO hS (xz rfl Tryd.runUnderlying65) rfl fun hS => sM hS rfl fun hS => qs <| yp <| zz (fun Vk a w => ∃ (JQ : Option Addr) (JT : Option Addr) (JU : Nat) (JO : (List Int)) (JV : qj) (JW : qj) (JX : Int), Ss 18 [] [(0, qp JP 0), (6, .slice J1 JN.length J4), (7, .int .i64 (JN.length : Int)), (8, .int .i64 JX)] H [JW, JV] F a w ∧ (JQ = none ∨ JQ = some ⟨JP, 0, none⟩) ∧ (zp 5 (ci .u8) 1 JT JO JU JV) ∧ (zH JW JP ([.pointer JQ, .slice JT JO.length JU]) 83) ∧ (z8.l1 K JN Vk JO JX).wp kr kp) K ?_ ?_ ?_
 ·exact ⟨JZ, J0, J3, JS.Builder_, J6, J5, (0 : Int), hS.to [0, 1] (by kernel_rfl) ⟨rfl, rfl, rfl, rfl, trivial⟩, Vl, Vo, Vm, hM⟩
 ·intro a w hI; obtain ⟨_, _, _, _, _, _, _, _, _, _, _, hM⟩ := hI; exact zA hM
 ·intro Vk a w hI VA Vn
  obtain ⟨JQ, JT, JU, JO, JV, JW, JX, hS, J7, J9, J8, hM⟩ := hI
  rw [z8.l1] at hM
  refine qn <| sB hS rfl fun hS => qs <| wp_seq <| qI hS rfl hM (fun Vp hM => ?_) (fun Vp hM => ?_)
  ·refine wp_skip ?_
   refine qi <| wp_seq <| yp <| wp_seq <| zI ?_
   obtain ⟨Vb, hM⟩ := qL hM
   refine sO hS (vS rfl rfl Tryd.runUnderlying65 Tryd.sizeOf3 Vc.wk (fun _ => rfl) rfl Vb) rfl fun hS => sO hS (uP rfl Vc.wk (fun _ => rfl) Vb rfl Tryd.isAgg3) rfl fun hS => zO (v := Value.int .i64) (x0 := (rd JN JX)) hS (xK rfl) rfl fun JY a w hz hS => ?_
   have hM := qO hz hM; clear hz
   refine qs <| zI <| sM hS rfl fun hS => sM hS rfl fun hS => sO hS (yM rfl Tryd.runUnderlying3 Tryd.runUnderlying23) rfl fun hS => vQ (g := (ci .u64)) ([(wr .u64 JY)] : List Int) [.int .u64 (wr .u64 JY)] hS Tryd.runUnderlying73 Tryd.sizeOf23 X.el23 rfl rfl rfl (by simp [Value.cells]) rfl rfl rfl rfl rfl fun w Vq Vt Vv Va hS => ql hS rfl Tryd.call68 (yy hG K (qc.mk JO) (4 : Int) ([(wr .u64 JY)] : List Int) JP JW JQ JT JU JV Vq Vt J8 J7 J9 (Va.rdF (i := 0) rfl) (Va.cap (fun _ => rfl) rfl) (hS.st.part 2 [1, 2, 0] (by kernel_rfl)) (qf hM) (fun Vr Vs Vu Vd Vg Vh w hM Vw Vx Vy hst => qk hS.ev hst.appF rfl fun hS => ?_))
   replace hS : Ss _ _ _ H [Vh, Vg, Vv] F _ _ := hS
   refine qN <| xr (qi ?_)
   refine zI <| sB hS rfl fun hS => sM hS rfl fun hS => qN <| qi ?_
   exact Vn _ _ ⟨Vr, Vs, Vu, Vd, Vg, Vh, (qM (JX + (1 : Int))), hS.to [0, 1] (by kernel_rfl) ⟨rfl, rfl, rfl, rfl, trivial⟩, Vw, Vx, Vy, hM⟩
  ·refine wp_exit ?_
   refine qK (qK (zi ?_))
   exact x1 (rs := []) hS rfl rfl (hret JQ JT JU JO JV JW _ (qC hM) J7 J9 J8 (hS.st.pick [0, 1] (by kernel_rfl)))
theorem v3 {H : zB} {F : List qj} {w : World} {R : Ending → World → Prop} {kr : (List Int) → Prop} {kp : Value → Prop} (hG : Gl H) (K : Nat) (JQ : qc) (JN : List Int) (JO : Nat) (JX : qj) (JR : Option Addr) (JS : Option Addr) (JV : Nat) (JY : qj) (JT : Option Addr) (JW : Nat) (J7 : zH JX JO ([.pointer JR, .slice JS JQ.Builder_.length JV]) 83) (J6 : JR = none ∨ JR = some ⟨JO, 0, none⟩) (J8 : zp 5 (ci .u8) 1 JS JQ.Builder_ JV JY) (Va : yT H [] F (ci .u64) JT JN) (J9 : JN.length ≤ JW)
    (hS : St w H [JX, JY] F) (hm : (ji.m K JQ JN).wp kr kp)
    (hret : ∀ (JU : Option Addr) (J0 : Option Addr) (J1 : Nat) (JP : (List Int)) (J4 : qj) (J5 : qj) (w : World), kr JP → (JU = none ∨ JU = some ⟨JO, 0, none⟩) → (zp 5 (ci .u8) 1 J0 JP J1 J4) → (zH J5 JO ([.pointer JU, .slice J0 JP.length J1]) 83) → St w H [J5, J4] F → R (.returned (.tuple ⟨[]⟩)) w) :
    Calls Tryd.prog 35 ⟨[qp JO 0, .slice JT JN.length JW]⟩ w R := by
 refine enter Tryd.func35 rfl Tryd.ntmps35 rfl hS fun a w hS => ?_
 have hM := hm; clear hm
 rw [ji.m] at hM
 refine zI <| sM hS rfl fun hS => sM hS rfl fun hS => ql hS rfl Tryd.call68 (yy hG K JQ (8 : Int) JN JO JX JR JS JV JY JT JW J7 J6 J8 (Va.app _) J9 (hS.st.part 2 [0, 1] (by kernel_rfl)) (qf hM) (fun Vb Vc Vd JZ J2 J3 w hM Ve Vf Vg hst => qk hS.ev hst.appF rfl fun hS => ?_))
 replace hS : Ss _ _ _ H [J3, J2] F _ _ := hS
 refine qN ?_
 exact x1 (rs := []) hS rfl rfl (hret Vb Vc Vd JZ J2 J3 _ (qC hM) Ve Vf Vg (hS.st.pick [0, 1] (by kernel_rfl)))
theorem yH {H : zB} {F : List qj} {w : World} {R : Ending → World → Prop} {kr : (List UInt8) → Prop} {kp : Value → Prop} (hG : Gl H) (K : Nat) (JN : qc) (JO : Nat) (JU : qj) (JS : Option Addr) (JP : Option Addr) (JQ : Nat) (JY : qj) (JR : zH JU JO ([.pointer JS, .slice JP JN.Builder_.length JQ]) 83) (J1 : JS = none ∨ JS = some ⟨JO, 0, none⟩) (JV : zp 5 (ci .u8) 1 JP JN.Builder_ JQ JY)
    (hS : St w H [JU, JY] F) (hm : (xb.m K JN).wp kr kp)
    (hret : ∀ (JZ : List UInt8) (w : World), kr JZ → St w H [JU] F → R (.returned (qr JZ)) w) :
    Calls Tryd.prog 42 ⟨[qp JO 0]⟩ w R := by
 refine enter Tryd.func42 rfl Tryd.ntmps42 rfl hS fun a w hS => ?_
 have hM := hm; clear hm
 rw [xb.m] at hM
 refine qn <| sA hS rfl fun hS => qs <| wp_seq <| qR (vals := [some (qp JO 0), some (qp JO 0), some (qp JO 1), some (.slice JP JN.Builder_.length JQ), none, some (qp JO 0), some (qp JO 0), some (qp JO 1), some (.slice JP JN.Builder_.length JQ), some (.int .i64 (JN.Builder_.length : Int)), none, none]) hS xe rfl ?_
 intro l w ho hcl hA hst
 refine yA hA hst ho hcl zU xf 4 [0, 1, 2, 3, 5, 6, 7, 8, 9] rfl rfl rfl rfl rfl (by exact ⟨nM rfl, nQ rfl (by exact qH (xm rfl) rfl), nQ rfl (by exact qH (qU rfl Tryd.runUnderlying81 rfl Tryd.sizeOf40 rfl) rfl), nQ rfl (by exact qH (zD 0 rfl JR rfl rfl Tryd.isAgg40) rfl), nM rfl, nQ rfl (by exact qH (xm rfl) rfl), nQ rfl (by exact qH (qU rfl Tryd.runUnderlying81 rfl Tryd.sizeOf40 rfl) rfl), nQ rfl (by exact qH (zD 0 rfl JR rfl rfl Tryd.isAgg40) rfl), nQ rfl (by exact qH (xz rfl Tryd.runUnderlying40) rfl), trivial⟩) fun D l a w ho hcl hav hpre hm hE hk hA hst => ?_
 have hS := (Ss.mk hE hst).env2 (e' := [(6, .slice JP JN.Builder_.length JQ)]) ⟨rfl, trivial⟩
 refine qy rfl <| YO 1 hS rfl JV rfl Tryd.underlying126 rfl fun JT w J0 hS => qs ?_
 replace hst := hS.st
 obtain ⟨hcl, hmust, hav2, hA⟩ := dn (vals' := [some (qp JO 0), some (qp JO 0), some (qp JO 1), some (.slice JP JN.Builder_.length JQ), some (.pointer JT), some (qp JO 0), some (qp JO 0), some (qp JO 1), some (.slice JP JN.Builder_.length JQ), some (.int .i64 (JN.Builder_.length : Int)), none, none]) 4 [(3, 4), (2, 3), (1, 2), (0, 1)] hA hcl hav hm hpre hk rfl rfl rfl rfl rfl rfl rfl
 clear hm hav
 refine yA hA hst ho hcl hav2 hmust 10 [5, 6, 7, 8, 9] rfl rfl rfl rfl rfl (by exact ⟨nM rfl, nQ rfl (by exact qH (xm rfl) rfl), nQ rfl (by exact qH (qU rfl Tryd.runUnderlying81 rfl Tryd.sizeOf40 rfl) rfl), nQ rfl (by exact qH (zD 0 rfl JR rfl rfl Tryd.isAgg40) rfl), nQ rfl (by exact qH (xz rfl Tryd.runUnderlying40) rfl), trivial⟩) fun D l a w ho hcl hav hpre hm hE hk hA hst => ?_
 have hS := (Ss.mk hE hst).env2 (e' := [(7, .pointer JT), (12, .int .i64 (JN.Builder_.length : Int))]) ⟨rfl, rfl, trivial⟩
 refine qy rfl <| YP 1 hS rfl rfl J0 JV rfl Tryd.underlying126 (by kernel_rfl) rfl fun w J2 hS => qs ?_
 replace hst := hS.st
 obtain ⟨JX, JW⟩ : ∃ x, x = (JN.Builder_.map yt) := ⟨_, rfl⟩
 replace hM := qO JW hM
 obtain ⟨hcl, hmust, hav2, hA⟩ := dn (vals' := [some (qp JO 0), some (qp JO 0), some (qp JO 1), some (.slice JP JN.Builder_.length JQ), some (.pointer JT), some (qp JO 0), some (qp JO 0), some (qp JO 1), some (.slice JP JN.Builder_.length JQ), some (.int .i64 (JN.Builder_.length : Int)), some (qr (JN.Builder_.map yt)), some (qr JX)]) 10 [(4, 10), (9, 10), (3, 4), (8, 9), (2, 3), (7, 8), (1, 2), (6, 7), (0, 1), (5, 6)] hA hcl hav hm hpre hk rfl rfl rfl rfl rfl rfl rfl
 clear hm hav
 refine xL hA hst ho hcl hmust [11] rfl rfl rfl (by exact ⟨nQ rfl (by exact qH (xK rfl) (congrArg (qr) JW.symm)), trivial⟩) fun a w hS => ?_
 replace hS := hS.env2 (e' := [(2, qr JX)]) ⟨rfl, trivial⟩
 refine qi <| wp_ret ?_
 exact qT (rs := [2]) hS rfl rfl (hret JX _ (qC hM) (hS.st.pick [0] (by kernel_rfl)))
theorem yG {H : zB} {F : List qj} {w : World} {R : Ending → World → Prop} {kr : (List UInt8) → Prop} {kp : Value → Prop} (hG : Gl H) (K : Nat) (JN : qg) (JO : Nat) (JW : qj) (JS : Option Addr) (JP : Option Addr) (JQ : Nat) (J3 : qj) (JT : Option Addr) (J1 : Option Addr) (J2 : Nat) (JX : qj) (JU : Option Addr) (J6 : Option Addr) (J7 : Nat) (JR : zH JW JO ([.pointer JS, .slice JP JN.bytes_.Builder_.length JQ, .pointer JT, .slice J1 JN.headers_.Builder_.length J2, .pointer JU, .slice J6 JN.names_.length J7]) 85) (J8 : JS = none ∨ JS = some ⟨JO, 0, none⟩) (JY : zp 5 (ci .u8) 1 JP JN.bytes_.Builder_ JQ J3) (J9 : JT = none ∨ JT = some ⟨JO, 2, none⟩) (Vb : zp 5 (ci .u8) 1 J1 JN.headers_.Builder_ J2 JX) (Va : JU = none ∨ JU = some ⟨JO, 4, none⟩)
    (hS : St w H [JW, J3, JX] F) (hm : (xa.m K JN).wp kr kp)
    (hret : ∀ (J4 : List UInt8) (w : World), kr J4 → St w H [JW, JX] F → R (.returned (qr J4)) w) :
    Calls Tryd.prog 42 ⟨[qp JO 0]⟩ w R := by
 refine enter Tryd.func42 rfl Tryd.ntmps42 rfl hS fun a w hS => ?_
 have hM := hm; clear hm
 rw [xa.m] at hM
 refine qn <| sA hS rfl fun hS => qs <| wp_seq <| qR (vals := [some (qp JO 0), some (qp JO 0), some (qp JO 1), some (.slice JP JN.bytes_.Builder_.length JQ), none, some (qp JO 0), some (qp JO 0), some (qp JO 1), some (.slice JP JN.bytes_.Builder_.length JQ), some (.int .i64 (JN.bytes_.Builder_.length : Int)), none, none]) hS xe rfl ?_
 intro l w ho hcl hA hst
 refine yA hA hst ho hcl zU xf 4 [0, 1, 2, 3, 5, 6, 7, 8, 9] rfl rfl rfl rfl rfl (by exact ⟨nM rfl, nQ rfl (by exact qH (xm rfl) rfl), nQ rfl (by exact qH (qU rfl Tryd.runUnderlying81 rfl Tryd.sizeOf40 rfl) rfl), nQ rfl (by exact qH (zD 0 rfl JR rfl rfl Tryd.isAgg40) rfl), nM rfl, nQ rfl (by exact qH (xm rfl) rfl), nQ rfl (by exact qH (qU rfl Tryd.runUnderlying81 rfl Tryd.sizeOf40 rfl) rfl), nQ rfl (by exact qH (zD 0 rfl JR rfl rfl Tryd.isAgg40) rfl), nQ rfl (by exact qH (xz rfl Tryd.runUnderlying40) rfl), trivial⟩) fun D l a w ho hcl hav hpre hm hE hk hA hst => ?_
 have hS := (Ss.mk hE hst).env2 (e' := [(6, .slice JP JN.bytes_.Builder_.length JQ)]) ⟨rfl, trivial⟩
 refine qy rfl <| YO 1 hS rfl JY rfl Tryd.underlying126 rfl fun JV w J5 hS => qs ?_
 replace hst := hS.st
 obtain ⟨hcl, hmust, hav2, hA⟩ := dn (vals' := [some (qp JO 0), some (qp JO 0), some (qp JO 1), some (.slice JP JN.bytes_.Builder_.length JQ), some (.pointer JV), some (qp JO 0), some (qp JO 0), some (qp JO 1), some (.slice JP JN.bytes_.Builder_.length JQ), some (.int .i64 (JN.bytes_.Builder_.length : Int)), none, none]) 4 [(3, 4), (2, 3), (1, 2), (0, 1)] hA hcl hav hm hpre hk rfl rfl rfl rfl rfl rfl rfl
 clear hm hav
 refine yA hA hst ho hcl hav2 hmust 10 [5, 6, 7, 8, 9] rfl rfl rfl rfl rfl (by exact ⟨nM rfl, nQ rfl (by exact qH (xm rfl) rfl), nQ rfl (by exact qH (qU rfl Tryd.runUnderlying81 rfl Tryd.sizeOf40 rfl) rfl), nQ rfl (by exact qH (zD 0 rfl JR rfl rfl Tryd.isAgg40) rfl), nQ rfl (by exact qH (xz rfl Tryd.runUnderlying40) rfl), trivial⟩) fun D l a w ho hcl hav hpre hm hE hk hA hst => ?_
 have hS := (Ss.mk hE hst).env2 (e' := [(7, .pointer JV), (12, .int .i64 (JN.bytes_.Builder_.length : Int))]) ⟨rfl, rfl, trivial⟩
 refine qy rfl <| YP 1 hS rfl rfl J5 JY rfl Tryd.underlying126 (by kernel_rfl) rfl fun w Vc hS => qs ?_
 replace hst := hS.st
 obtain ⟨J0, JZ⟩ : ∃ x, x = (JN.bytes_.Builder_.map yt) := ⟨_, rfl⟩
 replace hM := qO JZ hM
 obtain ⟨hcl, hmust, hav2, hA⟩ := dn (vals' := [some (qp JO 0), some (qp JO 0), some (qp JO 1), some (.slice JP JN.bytes_.Builder_.length JQ), some (.pointer JV), some (qp JO 0), some (qp JO 0), some (qp JO 1), some (.slice JP JN.bytes_.Builder_.length JQ), some (.int .i64 (JN.bytes_.Builder_.length : Int)), some (qr (JN.bytes_.Builder_.map yt)), some (qr J0)]) 10 [(4, 10), (9, 10), (3, 4), (8, 9), (2, 3), (7, 8), (1, 2), (6, 7), (0, 1), (5, 6)] hA hcl hav hm hpre hk rfl rfl rfl rfl rfl rfl rfl
 clear hm hav
 refine xL hA hst ho hcl hmust [11] rfl rfl rfl (by exact ⟨nQ rfl (by exact qH (xK rfl) (congrArg (qr) JZ.symm)), trivial⟩) fun a w hS => ?_
 replace hS := hS.env2 (e' := [(2, qr J0)]) ⟨rfl, trivial⟩
 refine qi <| wp_ret ?_
 exact qT (rs := [2]) hS rfl rfl (hret J0 _ (qC hM) (hS.st.pick [0, 2] (by kernel_rfl)))
theorem yJ {H : zB} {F : List qj} {w : World} {R : Ending → World → Prop} {kr : (List UInt8) → Prop} {kp : Value → Prop} (hG : Gl H) (K : Nat) (JN : qg) (JO : Nat) (JW : qj) (JS : Option Addr) (J3 : Option Addr) (J5 : Nat) (JT : Option Addr) (JP : Option Addr) (JQ : Nat) (J0 : qj) (JU : Option Addr) (J4 : Option Addr) (J6 : Nat) (JR : zH JW JO ([.pointer JS, .slice J3 JN.bytes_.Builder_.length J5, .pointer JT, .slice JP JN.headers_.Builder_.length JQ, .pointer JU, .slice J4 JN.names_.length J6]) 85) (J7 : JS = none ∨ JS = some ⟨JO, 0, none⟩) (J8 : JT = none ∨ JT = some ⟨JO, 2, none⟩) (JX : zp 5 (ci .u8) 1 JP JN.headers_.Builder_ JQ J0) (J9 : JU = none ∨ JU = some ⟨JO, 4, none⟩)
    (hS : St w H [JW, J0] F) (hm : (xd.m K JN).wp kr kp)
    (hret : ∀ (J1 : List UInt8) (w : World), kr J1 → St w H [JW] F → R (.returned (qr J1)) w) :
    Calls Tryd.prog 42 ⟨[qp JO 2]⟩ w R := by
 refine enter Tryd.func42 rfl Tryd.ntmps42 rfl hS fun a w hS => ?_
 have hM := hm; clear hm
 rw [xd.m] at hM
 refine qn <| sA hS rfl fun hS => qs <| wp_seq <| qR (vals := [some (qp JO 2), some (qp JO 2), some (qp JO 3), some (.slice JP JN.headers_.Builder_.length JQ), none, some (qp JO 2), some (qp JO 2), some (qp JO 3), some (.slice JP JN.headers_.Builder_.length JQ), some (.int .i64 (JN.headers_.Builder_.length : Int)), none, none]) hS xe rfl ?_
 intro l w ho hcl hA hst
 refine yA hA hst ho hcl zU xf 4 [0, 1, 2, 3, 5, 6, 7, 8, 9] rfl rfl rfl rfl rfl (by exact ⟨nM rfl, nQ rfl (by exact qH (xm rfl) rfl), nQ rfl (by exact qH (qU rfl Tryd.runUnderlying81 rfl Tryd.sizeOf40 rfl) rfl), nQ rfl (by exact qH (zD 0 rfl JR rfl rfl Tryd.isAgg40) rfl), nM rfl, nQ rfl (by exact qH (xm rfl) rfl), nQ rfl (by exact qH (qU rfl Tryd.runUnderlying81 rfl Tryd.sizeOf40 rfl) rfl), nQ rfl (by exact qH (zD 0 rfl JR rfl rfl Tryd.isAgg40) rfl), nQ rfl (by exact qH (xz rfl Tryd.runUnderlying40) rfl), trivial⟩) fun D l a w ho hcl hav hpre hm hE hk hA hst => ?_
 have hS := (Ss.mk hE hst).env2 (e' := [(6, .slice JP JN.headers_.Builder_.length JQ)]) ⟨rfl, trivial⟩
 refine qy rfl <| YO 1 hS rfl JX rfl Tryd.underlying126 rfl fun JV w J2 hS => qs ?_
 replace hst := hS.st
 obtain ⟨hcl, hmust, hav2, hA⟩ := dn (vals' := [some (qp JO 2), some (qp JO 2), some (qp JO 3), some (.slice JP JN.headers_.Builder_.length JQ), some (.pointer JV), some (qp JO 2), some (qp JO 2), some (qp JO 3), some (.slice JP JN.headers_.Builder_.length JQ), some (.int .i64 (JN.headers_.Builder_.length : Int)), none, none]) 4 [(3, 4), (2, 3), (1, 2), (0, 1)] hA hcl hav hm hpre hk rfl rfl rfl rfl rfl rfl rfl
 clear hm hav
 refine yA hA hst ho hcl hav2 hmust 10 [5, 6, 7, 8, 9] rfl rfl rfl rfl rfl (by exact ⟨nM rfl, nQ rfl (by exact qH (xm rfl) rfl), nQ rfl (by exact qH (qU rfl Tryd.runUnderlying81 rfl Tryd.sizeOf40 rfl) rfl), nQ rfl (by exact qH (zD 0 rfl JR rfl rfl Tryd.isAgg40) rfl), nQ rfl (by exact qH (xz rfl Tryd.runUnderlying40) rfl), trivial⟩) fun D l a w ho hcl hav hpre hm hE hk hA hst => ?_
 have hS := (Ss.mk hE hst).env2 (e' := [(7, .pointer JV), (12, .int .i64 (JN.headers_.Builder_.length : Int))]) ⟨rfl, rfl, trivial⟩
 refine qy rfl <| YP 1 hS rfl rfl J2 JX rfl Tryd.underlying126 (by kernel_rfl) rfl fun w Va hS => qs ?_
 replace hst := hS.st
 obtain ⟨JZ, JY⟩ : ∃ x, x = (JN.headers_.Builder_.map yt) := ⟨_, rfl⟩
 replace hM := qO JY hM
 obtain ⟨hcl, hmust, hav2, hA⟩ := dn (vals' := [some (qp JO 2), some (qp JO 2), some (qp JO 3), some (.slice JP JN.headers_.Builder_.length JQ), some (.pointer JV), some (qp JO 2), some (qp JO 2), some (qp JO 3), some (.slice JP JN.headers_.Builder_.length JQ), some (.int .i64 (JN.headers_.Builder_.length : Int)), some (qr (JN.headers_.Builder_.map yt)), some (qr JZ)]) 10 [(4, 10), (9, 10), (3, 4), (8, 9), (2, 3), (7, 8), (1, 2), (6, 7), (0, 1), (5, 6)] hA hcl hav hm hpre hk rfl rfl rfl rfl rfl rfl rfl
 clear hm hav
 refine xL hA hst ho hcl hmust [11] rfl rfl rfl (by exact ⟨nQ rfl (by exact qH (xK rfl) (congrArg (qr) JY.symm)), trivial⟩) fun a w hS => ?_
 replace hS := hS.env2 (e' := [(2, qr JZ)]) ⟨rfl, trivial⟩
 refine qi <| wp_ret ?_
 exact qT (rs := [2]) hS rfl rfl (hret JZ _ (qC hM) (hS.st.pick [0] (by kernel_rfl)))
end Go.TrydS

